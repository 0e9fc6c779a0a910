/-
  Walks through functions of the program and the reference, and the plain laws behind them: what one claim needs of them.
  Conditions: those that each theorem states.
-/
import Derived.ProofKit
import Derived.Deep.Slices
import Derived.Deep.Fields
import Derived.Deep.Grids
import Derived.ChangeSame
import Derived.Lib.SmallJoins
import Derived.Below
import Derived.Carry
import Derived.Test.YtdlmjmcddafojaaQfS3
set_option linter.unusedVariables false
set_option linter.unusedSimpArgs false
namespace Go.Proofs.Ytdlmjmcddafojaa
/-! WalkDh -/
section
open Go Go.RowKit
attribute [local irreducible] wpList wpAnyH Code.wp dOp
set_option maxHeartbeats 2000000 in
set_option maxRecDepth 20000 in
theorem spec_l20Heap_c (bR p : Nat) (n : Int) (w : World) (RD : Rd w bR p) (hp : p ≤ 700000) (hn : n ≤ 9223372036854775807) :
    Calls Try.prog 48 #[.pointer (some ⟨bR, 0, none⟩), .int .i64 n] w (Ret fun v w' => ∃ (hD : LH) (A1 B1 : Option Addr) (n1 c1 n2 c2 p2 : Nat), v = .agg #[.slice A1 n1 c1, .slice B1 n2 c2] ∧ n1 = hD.cells.length ∧ n2 = hD.roots.length ∧ hsize hD ≤ 300 ∧ p2 ≤ p + 900 ∧ RC (fun i => w.heap.size ≤ i) w' A1 hD.cells ∧ R1 (fun i => w.heap.size ≤ i) w' B1 (ints hD.roots) ∧ Rd w' bR p2 ∧ Mod (fun i => i = bR) w w') := by
 have lbR := RD.lt
 have hne : (50 : TypeId) ≠ 3 := by decide
 obtain ⟨z0, hz0⟩ : ∃ x, x = w.heap.size := ⟨_, rfl⟩
 refine enter Try.func48 rfl Try.ntmps48 (L := [_,_,_,_,_,_,_,_,_,_,_,_,_,_,_,_,_,_,_,_,_,_,_,_,_,_,_,_,_,_,_,_,_,_,_,_,_,_,_,_,_,_,_,_,_,_,_,_,_,_,_,_,_,_,_,_,_,_,_,_,_,_,_,_,_,_,_,_,_,_,_,_,_,_,_,_,_,_,_,_,_,_,_,_,_,_,_,_,_,_,_,_,_,_,_,_,_,_,_,_,_,_,_,_,_,_,_,_,_,_,_,_,_,_,_,_,_,_,_,_,_,_,_,_,_,_,_,_,_,_,_,_,_,_,_,_,_,_,_,_,_,_]) rfl ?_
 have G := Mod.refl (fun i => i = bR) w
 refine wp_seq_k fun K1 hK1 => ?_
 refine Sb 142 rfl ?_
 refine S_alloc (cs := [_, _]) zr26 rfl ?_
 intro b1 w1 fb1 g1 B1
 have lb1 := B1.lt
 replace RD := RD.grow g1
 replace G := G.grow g1
 have zg1 := g1.size
 refine S_nl rfl rfl ?_
 refine th_n (hK1 _ _ ?_)
 clear hK1 K1
 refine wp_seq_k fun K2 hK2 => ?_
 refine Sb 142 rfl ?_
 refine Smv rfl ?_
 refine S_call rfl en52 (spec_l20Program_c _ _ 0 _ RD (by omega) (by omega)) ?_
 rintro v2 w2 ⟨l2, A2, q2, cap2, p2, rfl, hq2, hqc2, hl2, hcs2, hp2, RO2, RD2, m2⟩
 obtain ⟨lP, rfl⟩ : ∃ x, x = l2 := ⟨_, rfl⟩
 subst hq2
 obtain ⟨pP, rfl⟩ : ∃ x, x = p2 := ⟨_, rfl⟩
 have hcsP := hcs2 (by decide)
 have hpP := hp2
 have hROP := RO2.below
 replace RD := RD2
 clear RD2
 replace G := Mod.trans' G m2 (fun _ h _ => h) (fun i h hl => by first | exact h | omega | (dsimp only at h ⊢; omega))
 replace B1 := B1.md m2
 have zm2 := m2.size
 refine S_call rfl en70 (spec_RunHeap_c _ _ lP _ _ hROP (by omega) hcsP) ?_
 rintro v3 w3 ⟨A3, B3, n13, c13, n23, c23, rs3, h3, rfl, hn13, hn23, va3, O3, g3⟩
 replace RD := RD.grow g3
 replace hROP := hROP.grow g3
 replace G := G.grow g3
 replace B1 := B1.grow g3
 have zg3 := g3.size
 obtain ⟨hK, rfl⟩ : ∃ x, x = h3 := ⟨_, rfl⟩
 have vK := va3
 subst hn13
 subst hn23
 obtain ⟨AK, rfl⟩ : ∃ x, x = A3 := ⟨_, rfl⟩
 obtain ⟨BK, rfl⟩ : ∃ x, x = B3 := ⟨_, rfl⟩
 obtain ⟨cK, rfl⟩ : ∃ x, x = c13 := ⟨_, rfl⟩
 obtain ⟨dK, rfl⟩ : ∃ x, x = c23 := ⟨_, rfl⟩
 obtain ⟨rsK, rfl⟩ : ∃ x, x = rs3 := ⟨_, rfl⟩
 have OX := O3.lt
 refine S_alloc (cs := [_, _]) zr26 rfl ?_
 intro b4 w4 fb4 g4 B4
 have lb4 := B4.lt
 replace RD := RD.grow g4
 replace OX := OX.grow g4
 replace G := G.grow g4
 replace B1 := B1.grow g4
 have zg4 := g4.size
 refine S_stM (pre := []) (old := [_, _]) (post := []) (vs := [_, _]) sz26 rfl rfl rfl (by first | rfl | assumption) B4 rfl rfl ?_
 intro w5 m5 X5
 replace B4 := Blk.eq (ys := [_, _]) X5 rfl
 clear X5
 replace G := Mod.trans' G m5 (fun _ h _ => h) (fun i h hl => by first | exact h | omega | (dsimp only at h ⊢; omega))
 replace RD := RD.md m5
 replace OX := OX.md m5
 replace B1 := B1.md m5
 have zm5 := m5.size
 refine S_nl rfl rfl ?_
 refine th_n (hK2 _ _ ?_)
 clear hK2 K2
 refine wp_seq_k fun K3 hK3 => ?_
 refine wp_seq_k fun K4 hK4 => ?_
 refine Sb 142 rfl ?_
 refine Smv rfl ?_
 refine S_call rfl en50 (spec_l20Rd_pick_c _ _ _ _ RD (by omega) (by omega)) ?_
 rintro v6 w6 ⟨k6, rfl, hk6, RD6, m6⟩
 obtain ⟨k0, rfl⟩ : ∃ x, x = k6 := ⟨_, rfl⟩
 have hk0 := hk6 (by decide)
 replace RD := RD6
 clear RD6
 replace G := Mod.trans' G m6 (fun _ h _ => h) (fun i h hl => by first | exact h | omega | (dsimp only at h ⊢; omega))
 replace OX := OX.md m6
 replace B1 := B1.md m6
 replace B4 := B4.md m6
 have zm6 := m6.size
 refine S_val (Y_eql rfl rfl) ?_
 refine S_nl rfl rfl ?_
 refine th_n (hK4 _ _ ?_)
 clear hK4 K4
 refine D_cut (fun a' w' => ∃ (hQ : LH) (AQ BQ : Option Addr) (cQ dQ : Nat) (rsQ : List (Option Addr × Nat)) (L : List Value), a' = ⟨L.toArray, []⟩ ∧ L.length = 142 ∧ L[0]? = some (.pointer (some ⟨bR, 0, none⟩)) ∧ L[1]? = some (.int .i64 n) ∧ L[4]? = some (.pointer (some ⟨b1, 0, none⟩)) ∧ L[5]? = some (.pointer (some ⟨b4, 0, none⟩)) ∧ Mod (fun i => i = bR ∨ i = b4) w6 w' ∧ (Blk w' b4 26 [.slice AQ hQ.cells.length cQ, .slice BQ hQ.roots.length dQ].toArray) ∧ (XH (fun i => w.heap.size ≤ i ∧ i ≠ b1 ∧ i ≠ b4 ∧ i < w'.heap.size) w' 50 3 AQ BQ hQ rsQ cQ dQ) ∧ (Sm hQ) ∧ (Rd w' bR (pP + 1))) ?_ ?_
 ·
  have GC7 := Mod.refl (fun i => i = bR ∨ i = b4) w6
  refine S_if rfl (fun hb1 => ?_) (fun hb1 => ?_)
  ·
   replace hb1 := nb_tt hb1
   have hXA := OX.rc
   have hXB := OX.r1
   have hzK := vK.small
   refine Sb 142 rfl ?_
   refine S_val (Y_loadS U26 rfl sz26 rfl (B4.row (by rfl))) ?_
   refine S_call rfl en71 (spec_CollectSweep2_c _ _ _ hK _ _ _ hXA hXB (by omega)) ?_
   rintro v9 w9 ⟨A9, B9, n19, c19, n29, c29, rs9, rfl, hn19, hn29, O9, g9⟩
   replace OX := OX.grow g9
   replace RD := RD.grow g9
   replace hXA := hXA.grow g9
   replace hXB := hXB.grow g9
   replace G := G.grow g9
   replace GC7 := GC7.grow g9
   replace B1 := B1.grow g9
   replace B4 := B4.grow g9
   have zg9 := g9.size
   obtain ⟨hS, hSe⟩ : ∃ x, x = (sweepV hK (reachV hK)).1 := ⟨_, rfl⟩
   have sQ : Sm hS := hSe ▸ Sm.swept vK
   rw [← hSe] at hn19 hn29 O9
   subst hn19
   subst hn29
   obtain ⟨AS, rfl⟩ : ∃ x, x = A9 := ⟨_, rfl⟩
   obtain ⟨BS, rfl⟩ : ∃ x, x = B9 := ⟨_, rfl⟩
   obtain ⟨cS, rfl⟩ : ∃ x, x = c19 := ⟨_, rfl⟩
   obtain ⟨dS, rfl⟩ : ∃ x, x = c29 := ⟨_, rfl⟩
   obtain ⟨rsS, rfl⟩ : ∃ x, x = rs9 := ⟨_, rfl⟩
   have OQ := O9.lt
   refine Smv rfl ?_
   refine S_val (Y_extract rfl rfl) ?_
   refine S_val (Y_extract rfl rfl) ?_
   refine S_stM (pre := []) (old := [_, _]) (post := []) (vs := [_, _]) sz26 rfl rfl rfl (by first | rfl | assumption) B4 rfl rfl ?_
   intro w10 m10 X10
   replace B4 := Blk.eq (ys := [_, _]) X10 rfl
   clear X10
   replace G := Mod.trans' G m10 (fun _ h _ => h) (fun i h hl => by first | exact h | omega | (dsimp only at h ⊢; omega))
   replace GC7 := GC7.trn m10
   replace OX := OX.md m10
   replace RD := RD.md m10
   replace OQ := OQ.md m10
   replace B1 := B1.md m10
   have zm10 := m10.size
   refine S_nl rfl rfl ?_
   exact ⟨rfl, _, _, _, _, _, _, _, rfl, rfl, rfl, rfl, rfl, rfl, GC7, B4, OQ.weak (fun i hi => by first | omega | (dsimp only at hi ⊢; omega)), sQ, RD⟩
  replace hb1 := nb_tf hb1
  have OQ := OX
  have sQ := vK.sm
  refine wp_skip ?_
  exact ⟨rfl, _, _, _, _, _, _, _, rfl, rfl, rfl, rfl, rfl, rfl, GC7, B4, OQ.weak (fun i hi => by first | omega | (dsimp only at hi ⊢; omega)), sQ, RD⟩
 rintro a' w8 ⟨hQ, AQ, BQ, cQ, dQ, rsQ, L, rfl, hL, hs0, hs1, hs4, hs5, gJ8, B4, OQ, sQ, RD⟩
 obtain ⟨x, rfl⟩ : ∃ x : Nat → Value, L = ((.pointer (some ⟨bR, 0, none⟩)) :: (.int .i64 n) :: x 2 :: x 3 :: (.pointer (some ⟨b1, 0, none⟩)) :: (.pointer (some ⟨b4, 0, none⟩)) :: x 6 :: x 7 :: x 8 :: x 9 :: x 10 :: x 11 :: x 12 :: x 13 :: x 14 :: x 15 :: x 16 :: x 17 :: x 18 :: x 19 :: x 20 :: x 21 :: x 22 :: x 23 :: x 24 :: x 25 :: x 26 :: x 27 :: x 28 :: x 29 :: x 30 :: x 31 :: x 32 :: x 33 :: x 34 :: x 35 :: x 36 :: x 37 :: x 38 :: x 39 :: x 40 :: x 41 :: x 42 :: x 43 :: x 44 :: x 45 :: x 46 :: x 47 :: x 48 :: x 49 :: x 50 :: x 51 :: x 52 :: x 53 :: x 54 :: x 55 :: x 56 :: x 57 :: x 58 :: x 59 :: x 60 :: x 61 :: x 62 :: x 63 :: x 64 :: x 65 :: x 66 :: x 67 :: x 68 :: x 69 :: x 70 :: x 71 :: x 72 :: x 73 :: x 74 :: x 75 :: x 76 :: x 77 :: x 78 :: x 79 :: x 80 :: x 81 :: x 82 :: x 83 :: x 84 :: x 85 :: x 86 :: x 87 :: x 88 :: x 89 :: x 90 :: x 91 :: x 92 :: x 93 :: x 94 :: x 95 :: x 96 :: x 97 :: x 98 :: x 99 :: x 100 :: x 101 :: x 102 :: x 103 :: x 104 :: x 105 :: x 106 :: x 107 :: x 108 :: x 109 :: x 110 :: x 111 :: x 112 :: x 113 :: x 114 :: x 115 :: x 116 :: x 117 :: x 118 :: x 119 :: x 120 :: x 121 :: x 122 :: x 123 :: x 124 :: x 125 :: x 126 :: x 127 :: x 128 :: x 129 :: x 130 :: x 131 :: x 132 :: x 133 :: x 134 :: x 135 :: x 136 :: x 137 :: x 138 :: x 139 :: x 140 :: x 141 :: []) := ⟨fun i => L.getD i undef, (slots_eta L 142 hL).trans (by show (L.getD 0 undef :: L.getD 1 undef :: L.getD 2 undef :: L.getD 3 undef :: L.getD 4 undef :: L.getD 5 undef :: L.getD 6 undef :: L.getD 7 undef :: L.getD 8 undef :: L.getD 9 undef :: L.getD 10 undef :: L.getD 11 undef :: L.getD 12 undef :: L.getD 13 undef :: L.getD 14 undef :: L.getD 15 undef :: L.getD 16 undef :: L.getD 17 undef :: L.getD 18 undef :: L.getD 19 undef :: L.getD 20 undef :: L.getD 21 undef :: L.getD 22 undef :: L.getD 23 undef :: L.getD 24 undef :: L.getD 25 undef :: L.getD 26 undef :: L.getD 27 undef :: L.getD 28 undef :: L.getD 29 undef :: L.getD 30 undef :: L.getD 31 undef :: L.getD 32 undef :: L.getD 33 undef :: L.getD 34 undef :: L.getD 35 undef :: L.getD 36 undef :: L.getD 37 undef :: L.getD 38 undef :: L.getD 39 undef :: L.getD 40 undef :: L.getD 41 undef :: L.getD 42 undef :: L.getD 43 undef :: L.getD 44 undef :: L.getD 45 undef :: L.getD 46 undef :: L.getD 47 undef :: L.getD 48 undef :: L.getD 49 undef :: L.getD 50 undef :: L.getD 51 undef :: L.getD 52 undef :: L.getD 53 undef :: L.getD 54 undef :: L.getD 55 undef :: L.getD 56 undef :: L.getD 57 undef :: L.getD 58 undef :: L.getD 59 undef :: L.getD 60 undef :: L.getD 61 undef :: L.getD 62 undef :: L.getD 63 undef :: L.getD 64 undef :: L.getD 65 undef :: L.getD 66 undef :: L.getD 67 undef :: L.getD 68 undef :: L.getD 69 undef :: L.getD 70 undef :: L.getD 71 undef :: L.getD 72 undef :: L.getD 73 undef :: L.getD 74 undef :: L.getD 75 undef :: L.getD 76 undef :: L.getD 77 undef :: L.getD 78 undef :: L.getD 79 undef :: L.getD 80 undef :: L.getD 81 undef :: L.getD 82 undef :: L.getD 83 undef :: L.getD 84 undef :: L.getD 85 undef :: L.getD 86 undef :: L.getD 87 undef :: L.getD 88 undef :: L.getD 89 undef :: L.getD 90 undef :: L.getD 91 undef :: L.getD 92 undef :: L.getD 93 undef :: L.getD 94 undef :: L.getD 95 undef :: L.getD 96 undef :: L.getD 97 undef :: L.getD 98 undef :: L.getD 99 undef :: L.getD 100 undef :: L.getD 101 undef :: L.getD 102 undef :: L.getD 103 undef :: L.getD 104 undef :: L.getD 105 undef :: L.getD 106 undef :: L.getD 107 undef :: L.getD 108 undef :: L.getD 109 undef :: L.getD 110 undef :: L.getD 111 undef :: L.getD 112 undef :: L.getD 113 undef :: L.getD 114 undef :: L.getD 115 undef :: L.getD 116 undef :: L.getD 117 undef :: L.getD 118 undef :: L.getD 119 undef :: L.getD 120 undef :: L.getD 121 undef :: L.getD 122 undef :: L.getD 123 undef :: L.getD 124 undef :: L.getD 125 undef :: L.getD 126 undef :: L.getD 127 undef :: L.getD 128 undef :: L.getD 129 undef :: L.getD 130 undef :: L.getD 131 undef :: L.getD 132 undef :: L.getD 133 undef :: L.getD 134 undef :: L.getD 135 undef :: L.getD 136 undef :: L.getD 137 undef :: L.getD 138 undef :: L.getD 139 undef :: L.getD 140 undef :: L.getD 141 undef :: []) = _; rw [slot_d hs0, slot_d hs1, slot_d hs4, slot_d hs5])⟩
 clear hL hs0 hs1 hs4 hs5
 replace G := Mod.trans' G gJ8 (fun _ h _ => h) (fun i h hl => by first | exact h | omega | (dsimp only at h ⊢; omega))
 replace OX := OX.md gJ8
 replace B1 := B1.md gJ8
 have zgJ8 := gJ8.size
 have lb4 := B4.lt
 refine th_n (hK3 _ _ ?_)
 clear hK3 K3
 refine wp_seq_k fun K5 hK5 => ?_
 refine wp_seq_k fun K6 hK6 => ?_
 refine Sb 142 rfl ?_
 refine Smv rfl ?_
 refine S_call rfl en50 (spec_l20Rd_pick_c _ _ _ _ RD (by omega) (by omega)) ?_
 rintro v11 w11 ⟨k11, rfl, hk11, RD11, m11⟩
 obtain ⟨k1, rfl⟩ : ∃ x, x = k11 := ⟨_, rfl⟩
 have hk1 := hk11 (by decide)
 replace RD := RD11
 clear RD11
 replace G := Mod.trans' G m11 (fun _ h _ => h) (fun i h hl => by first | exact h | omega | (dsimp only at h ⊢; omega))
 replace OQ := OQ.md m11
 replace B1 := B1.md m11
 replace B4 := B4.md m11
 have zm11 := m11.size
 refine Sas rfl ?_
 refine S_nl rfl rfl ?_
 refine th_n (hK6 _ _ ?_)
 clear hK6 K6
 refine D_cut (fun a' w' => ∃ (hL : LH) (AL BL : Option Addr) (cL dL : Nat) (rsL : List (Option Addr × Nat)) (pL : Nat) (L : List Value), a' = ⟨L.toArray, []⟩ ∧ L.length = 142 ∧ L[0]? = some (.pointer (some ⟨bR, 0, none⟩)) ∧ L[1]? = some (.int .i64 n) ∧ L[4]? = some (.pointer (some ⟨b1, 0, none⟩)) ∧ L[5]? = some (.pointer (some ⟨b4, 0, none⟩)) ∧ Mod (fun i => i = bR ∨ (w.heap.size ≤ i ∧ i ≠ b1)) w11 w' ∧ (Blk w' b4 26 [.slice AL hL.cells.length cL, .slice BL hL.roots.length dL].toArray) ∧ (XH (fun i => w.heap.size ≤ i ∧ i ≠ b1 ∧ i ≠ b4 ∧ i < w'.heap.size) w' 50 3 AL BL hL rsL cL dL) ∧ (Sm hL) ∧ (Rd w' bR pL) ∧ (pL ≤ pP + 40)) ?_ ?_
 ·
  have GC12 := Mod.refl (fun i => i = bR ∨ (w.heap.size ≤ i ∧ i ≠ b1)) w11
  refine wp_block ?_
  have OX := OQ.weak (Pr' := (fun i => w.heap.size ≤ i ∧ i ≠ b1 ∧ i ≠ b4)) (fun i hi => by first | omega | (dsimp only at hi ⊢; omega))
  go_loopw [6] (fun u6 wr => (∃ (k pp : Nat) (hK : LH) (AK BK : Option Addr) (cK dK : Nat) (rsK : List (Option Addr × Nat)), u6 = .int .i64 k ∧ k ≤ 5 ∧ pp + 3 * k ≤ pP + 20 ∧ Sm hK ∧ Blk wr b4 26 [.slice AK hK.cells.length cK, .slice BK hK.roots.length dK].toArray ∧ XH (fun i => w.heap.size ≤ i ∧ i ≠ b1 ∧ i ≠ b4) wr 50 3 AK BK hK rsK cK dK ∧ Rd wr bR pp) ∧ Mod (fun i => i = bR ∨ (w.heap.size ≤ i ∧ i ≠ b1)) w11 wr) (fun u6 wr => (intOf u6).toNat)
  case atStart =>
   refine ⟨?_, Mod.refl _ _⟩
   exact ⟨k1, _, hQ, _, _, _, _, _, rfl, by omega, by omega, sQ, B4, OX, RD⟩
  case round =>
   obtain ⟨w14, rfl⟩ : ∃ x : World, x = wr := ⟨_, rfl⟩
   obtain ⟨hrel, g14⟩ := hrel
   clear B4
   clear OX
   clear RD
   replace G := Mod.trans' G g14 (fun _ h _ => h) (fun i h hl => by first | exact h | omega | (dsimp only at h ⊢; omega))
   replace GC12 := GC12.trn g14
   replace B1 := B1.md g14
   have zg14 := g14.size
   obtain ⟨k, pp, hK, AK, BK, cK, dK, rsK, rfl, hk, hpp, sK, B4, OX, RD⟩ := hrel
   have GL14 := g14
   refine wp_seq_k fun K7 hK7 => ?_
   refine wp_seq_k fun K8 hK8 => ?_
   refine Sb 142 rfl ?_
   refine Smv rfl ?_
   refine S_val (Y_gtr rfl rfl) ?_
   refine Smv rfl ?_
   refine S_g 24 rfl (fun hb1 => ?_) (fun hb1 => ?_)
   ·
    replace hb1 := nb_tt hb1
    have hk0 : 0 < k := by omega
    refine S_on rfl rfl ?_
    refine S_val (Y_field U26 rfl fz26_0 (by decide) rfl) ?_
    refine S_on rfl rfl ?_
    refine S_val (Y_load U23 rfl rfl (B4.at (by rfl))) ?_
    refine S_on rfl rfl ?_
    refine S_val (Y_len U23 rfl) ?_
    refine S_on rfl rfl ?_
    refine S_val (Y_gtr rfl rfl) ?_
    refine S_val (Y_pickT rfl rfl) ?_
    refine S_nl rfl rfl ?_
    refine th_n (hK8 _ _ ?_)
    clear hK8 K8
    refine S_if rfl (fun hb2 => ?_) (fun hb2 => ?_)
    ·
     first | with_reducible (replace hb2 := nb_nt hb2) | with_reducible (replace hb2 := nb_tt hb2) | with_reducible (replace hb2 := nb_bt hb2) | skip
     have hlen : 0 < hK.cells.length := by omega
     have hl40 := sK.le
     refine wp_skip ?_
     refine th_n (hK7 _ _ ?_)
     clear hK7 K7
     refine wp_seq_k fun K9 hK9 => ?_
     refine wp_block ?_
     refine wp_seq_k fun K10 hK10 => ?_
     refine Sb 142 rfl ?_
     refine Smv rfl ?_
     refine S_val (Y_field U26 rfl fz26_0 (by decide) rfl) ?_
     refine S_val (Y_load U23 rfl rfl (B4.at (by rfl))) ?_
     refine S_val (Y_len U23 rfl) ?_
     refine S_call rfl en50 (spec_l20Rd_pick_c _ _ _ _ RD (by omega) (by omega)) ?_
     rintro v15 w15 ⟨k15, rfl, hk15, RD15, m15⟩
     obtain ⟨kA, rfl⟩ : ∃ x, x = k15 := ⟨_, rfl⟩
     have hkA := hk15 (by omega)
     replace RD := RD15
     clear RD15
     replace G := Mod.trans' G m15 (fun _ h _ => h) (fun i h hl => by first | exact h | omega | (dsimp only at h ⊢; omega))
     replace GC12 := GC12.trn m15
     replace GL14 := GL14.trn m15
     replace OX := OX.md m15
     replace B1 := B1.md m15
     replace B4 := B4.md m15
     have zm15 := m15.size
     refine Sas rfl ?_
     refine S_nl rfl rfl ?_
     refine th_n (hK10 _ _ ?_)
     clear hK10 K10
     refine wp_seq_k fun K11 hK11 => ?_
     refine Sb 142 rfl ?_
     refine Smv rfl ?_
     refine S_val (Y_field U26 rfl fz26_0 (by decide) rfl) ?_
     refine S_val (Y_load U23 rfl rfl (B4.at (by rfl))) ?_
     refine S_val (Y_len U23 rfl) ?_
     refine S_call rfl en50 (spec_l20Rd_pick_c _ _ _ _ RD (by omega) (by omega)) ?_
     rintro v16 w16 ⟨k16, rfl, hk16, RD16, m16⟩
     obtain ⟨kB, rfl⟩ : ∃ x, x = k16 := ⟨_, rfl⟩
     have hkB := hk16 (by omega)
     replace RD := RD16
     clear RD16
     replace G := Mod.trans' G m16 (fun _ h _ => h) (fun i h hl => by first | exact h | omega | (dsimp only at h ⊢; omega))
     replace GC12 := GC12.trn m16
     replace GL14 := GL14.trn m16
     replace OX := OX.md m16
     replace B1 := B1.md m16
     replace B4 := B4.md m16
     have zm16 := m16.size
     have hA1 : kA < hK.cells.length := by omega
     have hB1 : kB < hK.cells.length := by omega
     obtain ⟨gC, RX, capX, rfl, hpC, hrs, ccx, hRX, hRb⟩ := OX.cellAt hne (i := kA) hA1
     obtain ⟨gD, RY, capY, eD, _, _, ccy, _, _⟩ := OX.cellAt hne (i := kB) hB1
     cases eD
     try dsimp only at hpC
     refine Sas rfl ?_
     refine S_nl rfl rfl ?_
     refine th_n (hK11 _ _ ?_)
     clear hK11 K11
     refine wp_seq_k fun K12 hK12 => ?_
     refine Sb 142 rfl ?_
     refine S_val (Y_field U26 rfl fz26_0 (by decide) rfl) ?_
     refine S_val (Y_load U23 rfl rfl (B4.at (by rfl))) ?_
     refine Smv rfl ?_
     refine S_val (Y_index U23 sz50 rfl rfl (by first | assumption | omega)) ?_
     refine S_val (Y_field U50 rfl fz50_0 (by decide) rfl) ?_
     refine S_val (Y_load U4 rfl rfl (by first | assumption | exact ccx.at (by rfl) | exact ccy.at (by rfl) | exact B1.at (by rfl) | exact B4.at (by rfl))) ?_
     refine Smv rfl ?_
     refine S_g 48 rfl (fun hb3 => ?_) (fun hb3 => ?_)
     ·
      first | with_reducible (replace hb3 := nb_nt hb3) | with_reducible (replace hb3 := nb_tt hb3) | with_reducible (replace hb3 := nb_bt hb3) | skip
      refine S_on rfl rfl ?_
      refine S_val (Y_field U26 rfl fz26_0 (by decide) rfl) ?_
      refine S_on rfl rfl ?_
      refine S_val (Y_load U23 rfl rfl (B4.at (by rfl))) ?_
      refine S_on rfl rfl ?_
      refine Smv rfl ?_
      refine S_on rfl rfl ?_
      refine S_val (Y_index U23 sz50 rfl rfl (by first | assumption | omega)) ?_
      refine S_on rfl rfl ?_
      refine S_val (Y_field U50 rfl fz50_0 (by decide) rfl) ?_
      refine S_on rfl rfl ?_
      refine S_val (Y_load U4 rfl rfl (by first | assumption | exact ccx.at (by rfl) | exact ccy.at (by rfl) | exact B1.at (by rfl) | exact B4.at (by rfl))) ?_
      refine S_val (Y_pickT rfl rfl) ?_
      refine Smv rfl ?_
      refine S_g 56 rfl (fun hb4 => ?_) (fun hb4 => ?_)
      ·
       first | with_reducible (replace hb4 := nb_nt hb4) | with_reducible (replace hb4 := nb_tt hb4) | with_reducible (replace hb4 := nb_bt hb4) | skip
       refine S_on rfl rfl ?_
       refine S_val (Y_field U26 rfl fz26_0 (by decide) rfl) ?_
       refine S_on rfl rfl ?_
       refine S_val (Y_load U23 rfl rfl (B4.at (by rfl))) ?_
       refine S_on rfl rfl ?_
       refine Smv rfl ?_
       refine S_on rfl rfl ?_
       refine S_val (Y_index U23 sz50 rfl rfl (by first | assumption | omega)) ?_
       refine S_on rfl rfl ?_
       refine S_val (Y_field U50 rfl fz50_2 (by decide) rfl) ?_
       refine S_on rfl rfl ?_
       refine S_val (Y_load U24 rfl rfl (by first | assumption | exact ccx.at (by rfl) | exact ccy.at (by rfl) | exact B1.at (by rfl) | exact B4.at (by rfl))) ?_
       refine S_on rfl rfl ?_
       refine S_val (Y_len U24 rfl) ?_
       refine S_on rfl rfl ?_
       refine S_val (Y_gtr rfl rfl) ?_
       refine S_val (Y_pickT rfl rfl) ?_
       refine S_nl rfl rfl ?_
       refine th_n (hK12 _ _ ?_)
       clear hK12 K12
       refine S_if rfl (fun hb5 => ?_) (fun hb5 => ?_)
       ·
        first | with_reducible (replace hb5 := nb_nt hb5) | with_reducible (replace hb5 := nb_tt hb5) | with_reducible (replace hb5 := nb_bt hb5) | skip
        have hr0 : 0 < hK.cells[kA].refs.length := by omega
        have hr3 := sK.three _ (List.getElem_mem hA1)
        obtain ⟨bX, rfl, hpX, hXC⟩ := hRb hr0
        try dsimp only at hpX
        refine D_start 18 142 (fun w => Mod (fun i => i = bR ∨ i = bX) w) follows rfl rfl ?_
        intro w17 g17
        replace OX := OX.grow g17
        replace RD := RD.grow g17
        replace G := G.grow g17
        replace GC12 := GC12.grow g17
        replace GL14 := GL14.grow g17
        replace B1 := B1.grow g17
        replace B4 := B4.grow g17
        replace ccx := ccx.grow g17
        replace ccy := ccy.grow g17
        have zg17 := g17.size
        have GS17 := Mod.refl (fun i => i = bR ∨ i = bX) w17
        refine Dq (i := 0) rfl GS17 (fun _ _ => Y_field U26 rfl fz26_0 (by decide) rfl) ?_
        refine Dq (i := 1) rfl GS17 (fun _ hs => Y_load U23 rfl rfl (by first | exact hs.cel (B4.at (by rfl)))) ?_
        refine Dq (i := 2) rfl GS17 (fun _ _ => Y_move rfl) ?_
        refine Dq (i := 3) rfl GS17 (fun _ _ => Y_index U23 sz50 rfl rfl (by first | assumption | omega)) ?_
        refine Dq (i := 4) rfl GS17 (fun _ _ => Y_field U50 rfl fz50_2 (by decide) rfl) ?_
        refine Dq (i := 5) rfl GS17 (fun _ hs => Y_load U24 rfl rfl (by first | exact hs.cel (by assumption) | exact hs.cel (ccx.at (by rfl)) | exact hs.cel (ccy.at (by rfl)) | exact hs.cel (B1.at (by rfl)) | exact hs.cel (B4.at (by rfl)))) ?_
        refine Dq (i := 6) rfl GS17 (fun _ _ => Y_move rfl) ?_
        refine Dq (i := 7) rfl GS17 (fun _ _ => Y_field U26 rfl fz26_0 (by decide) rfl) ?_
        refine Dq (i := 8) rfl GS17 (fun _ hs => Y_load U23 rfl rfl (by first | exact hs.cel (B4.at (by rfl)))) ?_
        refine Dq (i := 9) rfl GS17 (fun _ _ => Y_move rfl) ?_
        refine Dq (i := 10) rfl GS17 (fun _ _ => Y_index U23 sz50 rfl rfl (by first | assumption | omega)) ?_
        refine Dq (i := 11) rfl GS17 (fun _ _ => Y_field U50 rfl fz50_2 (by decide) rfl) ?_
        refine Dq (i := 12) rfl GS17 (fun _ hs => Y_load U24 rfl rfl (by first | exact hs.cel (by assumption) | exact hs.cel (ccx.at (by rfl)) | exact hs.cel (ccy.at (by rfl)) | exact hs.cel (B1.at (by rfl)) | exact hs.cel (B4.at (by rfl)))) ?_
        refine Dq (i := 13) rfl GS17 (fun _ _ => Y_len U24 rfl) ?_
        refine Dq (i := 15) rfl GS17 (fun _ _ => Y_move rfl) ?_
        refine D_1 (i := 14) (by kernel_rfl) ?_
        refine E_call rfl rfl en50 (spec_l20Rd_pick_c _ _ _ _ RD (by omega) (by omega)) ?_
        rintro v18 w18 ⟨k18, rfl, hk18, RD18, m18⟩
        obtain ⟨kZ, rfl⟩ : ∃ x, x = k18 := ⟨_, rfl⟩
        have hkZ := hk18 (by omega)
        replace RD := RD18
        clear RD18
        replace G := Mod.trans' G m18 (fun _ h _ => h) (fun i h hl => by first | exact h | omega | (dsimp only at h ⊢; omega))
        replace GC12 := GC12.trn m18
        replace GL14 := GL14.trn m18
        replace GS17 := GS17.trn m18
        replace OX := OX.md m18
        replace B1 := B1.md m18
        replace B4 := B4.md m18
        clear ccx
        clear ccy
        have zm18 := m18.size
        refine ⟨GS17, ?_⟩
        refine Dq (i := 16) rfl GS17 (fun _ _ => Y_index U24 sz3 rfl rfl (by first | assumption | omega)) ?_
        refine D_1 (i := 17) (by kernel_rfl) ?_
        refine E_of (i := 17) rfl (Ys_ref sz3 OX hne hA1 hrs (j := kZ) (by omega) rfl rfl) ?_
        rintro w19 ⟨m19, hp19, OY⟩
        try dsimp only at hp19
        replace G := Mod.trans' G m19 (fun _ h _ => h) (fun i h hl => by first | exact h | omega | (dsimp only at h ⊢; omega))
        replace GC12 := GC12.trn m19
        replace GL14 := GL14.trn m19
        replace GS17 := GS17.trn m19
        replace RD := RD.md m19
        replace B1 := B1.md m19
        replace B4 := B4.md m19
        have zm19 := m19.size
        refine ⟨GS17, ?_⟩
        refine D_en (by kernel_rfl) rfl rfl ?_
        refine ib_n ?_
        refine th_n (hK9 _ _ ?_)
        clear hK9 K9
        refine Sb 142 rfl ?_
        refine Smv rfl ?_
        refine S_val (Y_sub (c := ((k - 1 : Nat) : Int)) rfl rfl (by omega) (by omega) (by omega)) ?_
        refine Sas rfl ?_
        refine S_nl rfl rfl ?_
        refine th_n ?_
        go_roundw
        case rel =>
         refine ⟨?_, GL14⟩
         first | exact ⟨k - 1, _, _, _, _, _, _, _, rfl, by omega, by omega, sK.ref hA1 kZ (kB : Int), Blk.eq B4 (by simp), OY, RD⟩ | exact ⟨k - 1, _, hK, _, _, _, _, _, rfl, by omega, by omega, sK, B4, OX, RD⟩
        case measure =>
         exact dec_nat (by omega)
       first | with_reducible (replace hb5 := nb_nf hb5) | with_reducible (replace hb5 := nb_tf hb5) | with_reducible (replace hb5 := nb_bf hb5) | skip
       refine wp_skip ?_
       refine ib_n ?_
       refine th_n (hK9 _ _ ?_)
       clear hK9 K9
       refine Sb 142 rfl ?_
       refine Smv rfl ?_
       refine S_val (Y_sub (c := ((k - 1 : Nat) : Int)) rfl rfl (by omega) (by omega) (by omega)) ?_
       refine Sas rfl ?_
       refine S_nl rfl rfl ?_
       refine th_n ?_
       go_roundw
       case rel =>
        refine ⟨?_, GL14⟩
        first | exact ⟨k - 1, _, _, _, _, _, _, _, rfl, by omega, by omega, sK.ref hA1 kZ (kB : Int), Blk.eq B4 (by simp), OY, RD⟩ | exact ⟨k - 1, _, hK, _, _, _, _, _, rfl, by omega, by omega, sK, B4, OX, RD⟩
       case measure =>
        exact dec_nat (by omega)
      first | with_reducible (replace hb4 := nb_nf hb4) | with_reducible (replace hb4 := nb_tf hb4) | with_reducible (replace hb4 := nb_bf hb4) | skip
      refine S_off rfl rfl ?_
      refine S_off rfl rfl ?_
      refine S_off rfl rfl ?_
      refine S_off rfl rfl ?_
      refine S_off rfl rfl ?_
      refine S_off rfl rfl ?_
      refine S_off rfl rfl ?_
      refine S_off rfl rfl ?_
      refine S_val (Y_pickF rfl rfl) ?_
      refine S_nl rfl rfl ?_
      refine th_n (hK12 _ _ ?_)
      clear hK12 K12
      refine S_ifF rfl ?_
      refine wp_skip ?_
      refine ib_n ?_
      refine th_n (hK9 _ _ ?_)
      clear hK9 K9
      refine Sb 142 rfl ?_
      refine Smv rfl ?_
      refine S_val (Y_sub (c := ((k - 1 : Nat) : Int)) rfl rfl (by omega) (by omega) (by omega)) ?_
      refine Sas rfl ?_
      refine S_nl rfl rfl ?_
      refine th_n ?_
      go_roundw
      case rel =>
       refine ⟨?_, GL14⟩
       first | exact ⟨k - 1, _, _, _, _, _, _, _, rfl, by omega, by omega, sK.ref hA1 kZ (kB : Int), Blk.eq B4 (by simp), OY, RD⟩ | exact ⟨k - 1, _, hK, _, _, _, _, _, rfl, by omega, by omega, sK, B4, OX, RD⟩
      case measure =>
       exact dec_nat (by omega)
     first | with_reducible (replace hb3 := nb_nf hb3) | with_reducible (replace hb3 := nb_tf hb3) | with_reducible (replace hb3 := nb_bf hb3) | skip
     refine S_off rfl rfl ?_
     refine S_off rfl rfl ?_
     refine S_off rfl rfl ?_
     refine S_off rfl rfl ?_
     refine S_off rfl rfl ?_
     refine S_off rfl rfl ?_
     refine S_val (Y_pickF rfl rfl) ?_
     refine Smv rfl ?_
     refine S_off rfl rfl ?_
     refine S_off rfl rfl ?_
     refine S_off rfl rfl ?_
     refine S_off rfl rfl ?_
     refine S_off rfl rfl ?_
     refine S_off rfl rfl ?_
     refine S_off rfl rfl ?_
     refine S_off rfl rfl ?_
     refine S_val (Y_pickF rfl rfl) ?_
     refine S_nl rfl rfl ?_
     refine th_n (hK12 _ _ ?_)
     clear hK12 K12
     refine S_ifF rfl ?_
     refine wp_skip ?_
     refine ib_n ?_
     refine th_n (hK9 _ _ ?_)
     clear hK9 K9
     refine Sb 142 rfl ?_
     refine Smv rfl ?_
     refine S_val (Y_sub (c := ((k - 1 : Nat) : Int)) rfl rfl (by omega) (by omega) (by omega)) ?_
     refine Sas rfl ?_
     refine S_nl rfl rfl ?_
     refine th_n ?_
     go_roundw
     case rel =>
      refine ⟨?_, GL14⟩
      first | exact ⟨k - 1, _, _, _, _, _, _, _, rfl, by omega, by omega, sK.ref hA1 kZ (kB : Int), Blk.eq B4 (by simp), OY, RD⟩ | exact ⟨k - 1, _, hK, _, _, _, _, _, rfl, by omega, by omega, sK, B4, OX, RD⟩
     case measure =>
      exact dec_nat (by omega)
    first | with_reducible (replace hb2 := nb_nf hb2) | with_reducible (replace hb2 := nb_tf hb2) | with_reducible (replace hb2 := nb_bf hb2) | skip
    refine wp_exit ?_
    refine th_x ?_
    try clear GL14
    refine th_x ?_
    refine ib_e ?_
    exact ⟨rfl, _, _, _, _, _, _, _, _, rfl, rfl, rfl, rfl, rfl, rfl, GC12, B4, OX.lt.weak (fun i hi => by first | omega | (dsimp only at hi ⊢; omega)), sK, RD, by omega⟩
   replace hb1 := nb_tf hb1
   refine S_off rfl rfl ?_
   refine S_off rfl rfl ?_
   refine S_off rfl rfl ?_
   refine S_off rfl rfl ?_
   refine S_val (Y_pickF rfl rfl) ?_
   refine S_nl rfl rfl ?_
   refine th_n (hK8 _ _ ?_)
   clear hK8 K8
   refine S_ifF rfl ?_
   refine wp_exit ?_
   refine th_x ?_
   try clear GL14
   refine th_x ?_
   refine ib_e ?_
   exact ⟨rfl, _, _, _, _, _, _, _, _, rfl, rfl, rfl, rfl, rfl, rfl, GC12, B4, OX.lt.weak (fun i hi => by first | omega | (dsimp only at hi ⊢; omega)), sK, RD, by omega⟩
 rintro a' w13 ⟨hL, AL, BL, cL, dL, rsL, pL, L, rfl, hL, hs0, hs1, hs4, hs5, gJ13, B4, OX, sL, RD, hpL⟩
 obtain ⟨x, rfl⟩ : ∃ x : Nat → Value, L = ((.pointer (some ⟨bR, 0, none⟩)) :: (.int .i64 n) :: x 2 :: x 3 :: (.pointer (some ⟨b1, 0, none⟩)) :: (.pointer (some ⟨b4, 0, none⟩)) :: x 6 :: x 7 :: x 8 :: x 9 :: x 10 :: x 11 :: x 12 :: x 13 :: x 14 :: x 15 :: x 16 :: x 17 :: x 18 :: x 19 :: x 20 :: x 21 :: x 22 :: x 23 :: x 24 :: x 25 :: x 26 :: x 27 :: x 28 :: x 29 :: x 30 :: x 31 :: x 32 :: x 33 :: x 34 :: x 35 :: x 36 :: x 37 :: x 38 :: x 39 :: x 40 :: x 41 :: x 42 :: x 43 :: x 44 :: x 45 :: x 46 :: x 47 :: x 48 :: x 49 :: x 50 :: x 51 :: x 52 :: x 53 :: x 54 :: x 55 :: x 56 :: x 57 :: x 58 :: x 59 :: x 60 :: x 61 :: x 62 :: x 63 :: x 64 :: x 65 :: x 66 :: x 67 :: x 68 :: x 69 :: x 70 :: x 71 :: x 72 :: x 73 :: x 74 :: x 75 :: x 76 :: x 77 :: x 78 :: x 79 :: x 80 :: x 81 :: x 82 :: x 83 :: x 84 :: x 85 :: x 86 :: x 87 :: x 88 :: x 89 :: x 90 :: x 91 :: x 92 :: x 93 :: x 94 :: x 95 :: x 96 :: x 97 :: x 98 :: x 99 :: x 100 :: x 101 :: x 102 :: x 103 :: x 104 :: x 105 :: x 106 :: x 107 :: x 108 :: x 109 :: x 110 :: x 111 :: x 112 :: x 113 :: x 114 :: x 115 :: x 116 :: x 117 :: x 118 :: x 119 :: x 120 :: x 121 :: x 122 :: x 123 :: x 124 :: x 125 :: x 126 :: x 127 :: x 128 :: x 129 :: x 130 :: x 131 :: x 132 :: x 133 :: x 134 :: x 135 :: x 136 :: x 137 :: x 138 :: x 139 :: x 140 :: x 141 :: []) := ⟨fun i => L.getD i undef, (slots_eta L 142 hL).trans (by show (L.getD 0 undef :: L.getD 1 undef :: L.getD 2 undef :: L.getD 3 undef :: L.getD 4 undef :: L.getD 5 undef :: L.getD 6 undef :: L.getD 7 undef :: L.getD 8 undef :: L.getD 9 undef :: L.getD 10 undef :: L.getD 11 undef :: L.getD 12 undef :: L.getD 13 undef :: L.getD 14 undef :: L.getD 15 undef :: L.getD 16 undef :: L.getD 17 undef :: L.getD 18 undef :: L.getD 19 undef :: L.getD 20 undef :: L.getD 21 undef :: L.getD 22 undef :: L.getD 23 undef :: L.getD 24 undef :: L.getD 25 undef :: L.getD 26 undef :: L.getD 27 undef :: L.getD 28 undef :: L.getD 29 undef :: L.getD 30 undef :: L.getD 31 undef :: L.getD 32 undef :: L.getD 33 undef :: L.getD 34 undef :: L.getD 35 undef :: L.getD 36 undef :: L.getD 37 undef :: L.getD 38 undef :: L.getD 39 undef :: L.getD 40 undef :: L.getD 41 undef :: L.getD 42 undef :: L.getD 43 undef :: L.getD 44 undef :: L.getD 45 undef :: L.getD 46 undef :: L.getD 47 undef :: L.getD 48 undef :: L.getD 49 undef :: L.getD 50 undef :: L.getD 51 undef :: L.getD 52 undef :: L.getD 53 undef :: L.getD 54 undef :: L.getD 55 undef :: L.getD 56 undef :: L.getD 57 undef :: L.getD 58 undef :: L.getD 59 undef :: L.getD 60 undef :: L.getD 61 undef :: L.getD 62 undef :: L.getD 63 undef :: L.getD 64 undef :: L.getD 65 undef :: L.getD 66 undef :: L.getD 67 undef :: L.getD 68 undef :: L.getD 69 undef :: L.getD 70 undef :: L.getD 71 undef :: L.getD 72 undef :: L.getD 73 undef :: L.getD 74 undef :: L.getD 75 undef :: L.getD 76 undef :: L.getD 77 undef :: L.getD 78 undef :: L.getD 79 undef :: L.getD 80 undef :: L.getD 81 undef :: L.getD 82 undef :: L.getD 83 undef :: L.getD 84 undef :: L.getD 85 undef :: L.getD 86 undef :: L.getD 87 undef :: L.getD 88 undef :: L.getD 89 undef :: L.getD 90 undef :: L.getD 91 undef :: L.getD 92 undef :: L.getD 93 undef :: L.getD 94 undef :: L.getD 95 undef :: L.getD 96 undef :: L.getD 97 undef :: L.getD 98 undef :: L.getD 99 undef :: L.getD 100 undef :: L.getD 101 undef :: L.getD 102 undef :: L.getD 103 undef :: L.getD 104 undef :: L.getD 105 undef :: L.getD 106 undef :: L.getD 107 undef :: L.getD 108 undef :: L.getD 109 undef :: L.getD 110 undef :: L.getD 111 undef :: L.getD 112 undef :: L.getD 113 undef :: L.getD 114 undef :: L.getD 115 undef :: L.getD 116 undef :: L.getD 117 undef :: L.getD 118 undef :: L.getD 119 undef :: L.getD 120 undef :: L.getD 121 undef :: L.getD 122 undef :: L.getD 123 undef :: L.getD 124 undef :: L.getD 125 undef :: L.getD 126 undef :: L.getD 127 undef :: L.getD 128 undef :: L.getD 129 undef :: L.getD 130 undef :: L.getD 131 undef :: L.getD 132 undef :: L.getD 133 undef :: L.getD 134 undef :: L.getD 135 undef :: L.getD 136 undef :: L.getD 137 undef :: L.getD 138 undef :: L.getD 139 undef :: L.getD 140 undef :: L.getD 141 undef :: []) = _; rw [slot_d hs0, slot_d hs1, slot_d hs4, slot_d hs5])⟩
 clear hL hs0 hs1 hs4 hs5
 replace G := Mod.trans' G gJ13 (fun _ h _ => h) (fun i h hl => by first | exact h | omega | (dsimp only at h ⊢; omega))
 replace B1 := B1.md gJ13
 have zgJ13 := gJ13.size
 have lb4 := B4.lt
 refine th_n (hK5 _ _ ?_)
 clear hK5 K5
 refine wp_seq_k fun K13 hK13 => ?_
 refine wp_seq_k fun K14 hK14 => ?_
 refine Sb 142 rfl ?_
 refine Smv rfl ?_
 refine Smv rfl ?_
 refine S_call rfl en53 (spec_l20Rd_odd_c _ _ _ _ RD (by omega) (by omega)) ?_
 rintro v20 w20 ⟨r20, p20, rfl, hr20, hp20, RD20, m20⟩
 obtain ⟨r9, rfl⟩ : ∃ x, x = r20 := ⟨_, rfl⟩
 have hr9 := hr20
 replace RD := RD20
 clear RD20
 replace G := Mod.trans' G m20 (fun _ h _ => h) (fun i h hl => by first | exact h | omega | (dsimp only at h ⊢; omega))
 replace OX := OX.md m20
 replace B1 := B1.md m20
 replace B4 := B4.md m20
 have zm20 := m20.size
 refine S_nl rfl rfl ?_
 refine th_n (hK14 _ _ ?_)
 clear hK14 K14
 refine S_if rfl (fun hb1 => ?_) (fun hb1 => ?_)
 ·
  first | with_reducible (replace hb1 := nb_nt hb1) | with_reducible (replace hb1 := nb_tt hb1) | with_reducible (replace hb1 := nb_bt hb1) | skip
  have h41 := sL.le
  have h4 := sL.four
  refine wp_seq_k fun K15 hK15 => ?_
  refine Sb 142 rfl ?_
  refine Smv rfl ?_
  refine S_call rfl en50 (spec_l20Rd_pick_c _ _ _ _ RD (by omega) (by omega)) ?_
  rintro v21 w21 ⟨k21, rfl, hk21, RD21, m21⟩
  obtain ⟨k5, rfl⟩ : ∃ x, x = k21 := ⟨_, rfl⟩
  have hk5 := hk21 (by decide)
  replace RD := RD21
  clear RD21
  replace G := Mod.trans' G m21 (fun _ h _ => h) (fun i h hl => by first | exact h | omega | (dsimp only at h ⊢; omega))
  replace OX := OX.md m21
  replace B1 := B1.md m21
  replace B4 := B4.md m21
  have zm21 := m21.size
  refine S_nl rfl rfl ?_
  refine th_n (hK15 _ _ ?_)
  clear hK15 K15
  refine wp_block ?_
  refine wp_seq_k fun K16 hK16 => ?_
  refine Sb 142 rfl ?_
  refine S_val (Y_eql rfl rfl) ?_
  refine Sas rfl ?_
  refine S_nl rfl rfl ?_
  refine th_n (hK16 _ _ ?_)
  clear hK16 K16
  refine S_if rfl (fun hb2 => ?_) (fun hb2 => ?_)
  ·
   replace hb2 := nb_tt hb2
   obtain ⟨A15, hs15, hR15⟩ := R1.rest (p := 0) (n := hL.roots.length) (j := 1) (cap := dL) (show R1 _ _ BL (ints (hL.roots.drop 0)) from OX.r1) (by omega) (by omega) OX.rd
   have hCF := OX.rc
   have hRF := hR15
   refine Sb 142 rfl ?_
   refine S_val (Y_field U26 rfl fz26_1 (by decide) rfl) ?_
   refine S_val (Y_load U24 rfl rfl (B4.at (by rfl))) ?_
   refine S_val (Yl.eq hs15 (Y_sliceL U24 sz3 rfl (j := 1) rfl (by omega))) ?_
   refine S_val (Y_field U26 rfl fz26_1 (by decide) rfl) ?_
   refine S_stM (pre := [_]) (old := [_]) (post := []) (vs := [_]) sz24 rfl rfl rfl (by first | rfl | assumption) B4 rfl rfl ?_
   intro w22 m22 X22
   replace B4 := Blk.eq (ys := [_, _]) X22 rfl
   clear X22
   replace G := Mod.trans' G m22 (fun _ h _ => h) (fun i h hl => by first | exact h | omega | (dsimp only at h ⊢; omega))
   replace OX := OX.md m22
   replace RD := RD.md m22
   replace hCF := hCF.md m22
   replace hRF := hRF.md m22
   replace B1 := B1.md m22
   have zm22 := m22.size
   refine S_nl rfl rfl ?_
   refine ib_n ?_
   refine th_n (hK13 _ _ ?_)
   clear hK13 K13
   refine wp_seq_k fun K17 hK17 => ?_
   refine Sb 142 rfl ?_
   refine S_val (Y_loadS U26 rfl sz26 rfl (B4.row (by rfl))) ?_
   refine S_stM (pre := []) (old := [_, _]) (post := []) (vs := [_, _]) sz26 rfl rfl rfl (by first | rfl | assumption) B1 rfl rfl ?_
   intro w23 m23 X23
   replace B1 := Blk.eq (ys := [_, _]) X23 rfl
   clear X23
   replace G := Mod.trans' G m23 (fun _ h _ => h) (fun i h hl => by first | exact h | omega | (dsimp only at h ⊢; omega))
   replace OX := OX.md m23
   replace RD := RD.md m23
   replace hCF := hCF.md m23
   replace hRF := hRF.md m23
   replace B4 := B4.md m23
   have zm23 := m23.size
   refine S_nl rfl rfl ?_
   refine th_n (hK17 _ _ ?_)
   clear hK17 K17
   refine wp_ret ?_
   refine ret_rc (cs := [_, _]) U26 rfl sz26 rfl rfl (B1.row (by rfl)) ?_
   first | exact ⟨_, _, _, _, _, _, _, _, rfl, by simp, by simp, sL.size, by omega, hCF.weak (fun i hi => by first | omega | (dsimp only at hi ⊢; omega)), hRF.weak (fun i hi => by first | omega | (dsimp only at hi ⊢; omega)), RD, G⟩ | exact ⟨_, _, _, _, _, _, _, _, rfl, by simp, by simp, sL.root _ _, by omega, hCF.weak (fun i hi => by first | omega | (dsimp only at hi ⊢; omega)), hRF.weak (fun i hi => by first | omega | (dsimp only at hi ⊢; omega)), RD, G⟩ | exact ⟨_, _, _, _, _, _, _, _, rfl, by simp, by simp, sL.more (by simp), by omega, hCF.weak (fun i hi => by first | omega | (dsimp only at hi ⊢; omega)), hRF.weak (fun i hi => by first | omega | (dsimp only at hi ⊢; omega)), RD, G⟩ | exact ⟨_, _, _, _, _, _, _, _, rfl, by simp, by simp, sL.rest, by omega, hCF.weak (fun i hi => by first | omega | (dsimp only at hi ⊢; omega)), hRF.weak (fun i hi => by first | omega | (dsimp only at hi ⊢; omega)), RD, G⟩
  replace hb2 := nb_tf hb2
  refine wp_seq_k fun K18 hK18 => ?_
  refine Sb 142 rfl ?_
  refine S_val (Y_eql rfl rfl) ?_
  refine Sas rfl ?_
  refine S_nl rfl rfl ?_
  refine th_n (hK18 _ _ ?_)
  clear hK18 K18
  refine S_if rfl (fun hb3 => ?_) (fun hb3 => ?_)
  ·
   replace hb3 := nb_tt hb3
   obtain ⟨bS, postS, rfl, hpS, _⟩ := OX.roots (ints_ne.2 (fun e => by rw [e] at h4; simp at h4))
   try dsimp only at hpS
   refine D_start 14 142 (fun w => Mod (fun i => i = bR ∨ i = bS) w) follows rfl rfl ?_
   intro w24 g24
   replace OX := OX.grow g24
   replace RD := RD.grow g24
   replace G := G.grow g24
   replace B1 := B1.grow g24
   replace B4 := B4.grow g24
   have zg24 := g24.size
   have GS24 := Mod.refl (fun i => i = bR ∨ i = bS) w24
   refine Dq (i := 0) rfl GS24 (fun _ _ => Y_field U26 rfl fz26_1 (by decide) rfl) ?_
   refine Dq (i := 1) rfl GS24 (fun _ hs => Y_load U24 rfl rfl (by first | exact hs.cel (B4.at (by rfl)))) ?_
   refine Dq (i := 2) rfl GS24 (fun _ _ => Y_move rfl) ?_
   refine Dq (i := 4) rfl GS24 (fun _ _ => Y_field U26 rfl fz26_0 (by decide) rfl) ?_
   refine Dq (i := 5) rfl GS24 (fun _ hs => Y_load U23 rfl rfl (by first | exact hs.cel (B4.at (by rfl)))) ?_
   refine Dq (i := 6) rfl GS24 (fun _ _ => Y_len U23 rfl) ?_
   refine Dq (i := 8) rfl GS24 (fun _ _ => Y_move rfl) ?_
   refine D_2 (i := 3) (j := 7) (by kernel_rfl) ?_ ?_
   ·
    refine E_call rfl rfl en50 (spec_l20Rd_pick_c _ _ _ _ RD (by omega) (by omega)) ?_
    rintro v25 w25 ⟨k25, rfl, hk25, RD25, m25⟩
    obtain ⟨kX, rfl⟩ : ∃ x, x = k25 := ⟨_, rfl⟩
    have hkX := hk25 (by decide)
    replace RD := RD25
    clear RD25
    replace G := Mod.trans' G m25 (fun _ h _ => h) (fun i h hl => by first | exact h | omega | (dsimp only at h ⊢; omega))
    replace GS24 := GS24.trn m25
    replace OX := OX.md m25
    replace B1 := B1.md m25
    replace B4 := B4.md m25
    have zm25 := m25.size
    refine ⟨GS24, ?_⟩
    refine D_2 (i := 7) (j := 9) (by kernel_rfl) ?_ ?_
    ·
     refine E_bsN (cs := [_, _]) (i := 7) rfl U24 zr3 sz3 rfl rfl ?_
     intro b26 w26 fb26 g26 B26
     refine ⟨GS24.grow g26, ?_⟩
     have lb26 := B26.lt
     replace OX := OX.grow g26
     replace RD := RD.grow g26
     replace G := G.grow g26
     replace GS24 := GS24.grow g26
     replace B1 := B1.grow g26
     replace B4 := B4.grow g26
     have zg26 := g26.size
     refine D_1 (i := 9) (by kernel_rfl) ?_
     refine E_call rfl rfl en50 (spec_l20Rd_pick_c _ _ _ _ RD (by omega) (by omega)) ?_
     rintro v27 w27 ⟨k27, rfl, hk27, RD27, m27⟩
     obtain ⟨kY, rfl⟩ : ∃ x, x = k27 := ⟨_, rfl⟩
     have hkY := hk27 (by decide)
     replace RD := RD27
     clear RD27
     replace G := Mod.trans' G m27 (fun _ h _ => h) (fun i h hl => by first | exact h | omega | (dsimp only at h ⊢; omega))
     replace GS24 := GS24.trn m27
     replace OX := OX.md m27
     replace B1 := B1.md m27
     replace B4 := B4.md m27
     replace B26 := B26.md m27
     have zm27 := m27.size
     refine ⟨GS24, ?_⟩
     refine Dq (i := 10) rfl GS24 (fun _ _ => Y_index U24 sz3 rfl rfl (by first | assumption | omega)) ?_
     refine D_1 (i := 11) (by kernel_rfl) ?_
     obtain ⟨xv, hxv⟩ := Blk.pickI (l := [-2, (hL.cells.length : Int)]) B26 (k := kY) (by show kY < 2; omega)
     refine E_val (i := 11) rfl (Y_load U3 rfl rfl hxv) GS24 ?_
     refine Dq (i := 12) rfl GS24 (fun _ _ => Y_index U24 sz3 rfl rfl (by first | assumption | omega)) ?_
     refine D_1 (i := 13) (by kernel_rfl) ?_
     refine E_of (i := 13) rfl (Ys_root sz3 OX hne (k := kX) (by omega) rfl rfl) ?_
     rintro w29 ⟨m29, hp29, OY⟩
     try dsimp only at hp29
     replace G := Mod.trans' G m29 (fun _ h _ => h) (fun i h hl => by first | exact h | omega | (dsimp only at h ⊢; omega))
     replace GS24 := GS24.trn m29
     replace RD := RD.md m29
     replace B1 := B1.md m29
     replace B4 := B4.md m29
     replace B26 := B26.md m29
     have zm29 := m29.size
     have hCF := OY.rc
     have hRF := OY.r1
     refine ⟨GS24, ?_⟩
     refine D_en (by kernel_rfl) rfl rfl ?_
     refine ib_n ?_
     refine th_n (hK13 _ _ ?_)
     clear hK13 K13
     refine wp_seq_k fun K19 hK19 => ?_
     refine Sb 142 rfl ?_
     refine S_val (Y_loadS U26 rfl sz26 rfl (B4.row (by rfl))) ?_
     refine S_stM (pre := []) (old := [_, _]) (post := []) (vs := [_, _]) sz26 rfl rfl rfl (by first | rfl | assumption) B1 rfl rfl ?_
     intro w30 m30 X30
     replace B1 := Blk.eq (ys := [_, _]) X30 rfl
     clear X30
     replace G := Mod.trans' G m30 (fun _ h _ => h) (fun i h hl => by first | exact h | omega | (dsimp only at h ⊢; omega))
     replace RD := RD.md m30
     replace OY := OY.md m30
     replace hCF := hCF.md m30
     replace hRF := hRF.md m30
     replace B4 := B4.md m30
     replace B26 := B26.md m30
     have zm30 := m30.size
     refine S_nl rfl rfl ?_
     refine th_n (hK19 _ _ ?_)
     clear hK19 K19
     refine wp_ret ?_
     refine ret_rc (cs := [_, _]) U26 rfl sz26 rfl rfl (B1.row (by rfl)) ?_
     first | exact ⟨_, _, _, _, _, _, _, _, rfl, by simp, by simp, sL.size, by omega, hCF.weak (fun i hi => by first | omega | (dsimp only at hi ⊢; omega)), hRF.weak (fun i hi => by first | omega | (dsimp only at hi ⊢; omega)), RD, G⟩ | exact ⟨_, _, _, _, _, _, _, _, rfl, by simp, by simp, sL.root _ _, by omega, hCF.weak (fun i hi => by first | omega | (dsimp only at hi ⊢; omega)), hRF.weak (fun i hi => by first | omega | (dsimp only at hi ⊢; omega)), RD, G⟩ | exact ⟨_, _, _, _, _, _, _, _, rfl, by simp, by simp, sL.more (by simp), by omega, hCF.weak (fun i hi => by first | omega | (dsimp only at hi ⊢; omega)), hRF.weak (fun i hi => by first | omega | (dsimp only at hi ⊢; omega)), RD, G⟩ | exact ⟨_, _, _, _, _, _, _, _, rfl, by simp, by simp, sL.rest, by omega, hCF.weak (fun i hi => by first | omega | (dsimp only at hi ⊢; omega)), hRF.weak (fun i hi => by first | omega | (dsimp only at hi ⊢; omega)), RD, G⟩
    refine E_call rfl rfl en50 (spec_l20Rd_pick_c _ _ _ _ RD (by omega) (by omega)) ?_
    rintro v31 w31 ⟨k31, rfl, hk31, RD31, m31⟩
    obtain ⟨kY, rfl⟩ : ∃ x, x = k31 := ⟨_, rfl⟩
    have hkY := hk31 (by decide)
    replace RD := RD31
    clear RD31
    replace G := Mod.trans' G m31 (fun _ h _ => h) (fun i h hl => by first | exact h | omega | (dsimp only at h ⊢; omega))
    replace GS24 := GS24.trn m31
    replace OX := OX.md m31
    replace B1 := B1.md m31
    replace B4 := B4.md m31
    have zm31 := m31.size
    refine ⟨GS24, ?_⟩
    refine D_1 (i := 7) (by kernel_rfl) ?_
    refine E_bsN (cs := [_, _]) (i := 7) rfl U24 zr3 sz3 rfl rfl ?_
    intro b32 w32 fb32 g32 B32
    refine ⟨GS24.grow g32, ?_⟩
    have lb32 := B32.lt
    replace OX := OX.grow g32
    replace RD := RD.grow g32
    replace G := G.grow g32
    replace GS24 := GS24.grow g32
    replace B1 := B1.grow g32
    replace B4 := B4.grow g32
    have zg32 := g32.size
    refine Dq (i := 10) rfl GS24 (fun _ _ => Y_index U24 sz3 rfl rfl (by first | assumption | omega)) ?_
    refine D_1 (i := 11) (by kernel_rfl) ?_
    obtain ⟨xv, hxv⟩ := Blk.pickI (l := [-2, (hL.cells.length : Int)]) B32 (k := kY) (by show kY < 2; omega)
    refine E_val (i := 11) rfl (Y_load U3 rfl rfl hxv) GS24 ?_
    refine Dq (i := 12) rfl GS24 (fun _ _ => Y_index U24 sz3 rfl rfl (by first | assumption | omega)) ?_
    refine D_1 (i := 13) (by kernel_rfl) ?_
    refine E_of (i := 13) rfl (Ys_root sz3 OX hne (k := kX) (by omega) rfl rfl) ?_
    rintro w34 ⟨m34, hp34, OY⟩
    try dsimp only at hp34
    replace G := Mod.trans' G m34 (fun _ h _ => h) (fun i h hl => by first | exact h | omega | (dsimp only at h ⊢; omega))
    replace GS24 := GS24.trn m34
    replace RD := RD.md m34
    replace B1 := B1.md m34
    replace B4 := B4.md m34
    replace B32 := B32.md m34
    have zm34 := m34.size
    have hCF := OY.rc
    have hRF := OY.r1
    refine ⟨GS24, ?_⟩
    refine D_en (by kernel_rfl) rfl rfl ?_
    refine ib_n ?_
    refine th_n (hK13 _ _ ?_)
    clear hK13 K13
    refine wp_seq_k fun K20 hK20 => ?_
    refine Sb 142 rfl ?_
    refine S_val (Y_loadS U26 rfl sz26 rfl (B4.row (by rfl))) ?_
    refine S_stM (pre := []) (old := [_, _]) (post := []) (vs := [_, _]) sz26 rfl rfl rfl (by first | rfl | assumption) B1 rfl rfl ?_
    intro w35 m35 X35
    replace B1 := Blk.eq (ys := [_, _]) X35 rfl
    clear X35
    replace G := Mod.trans' G m35 (fun _ h _ => h) (fun i h hl => by first | exact h | omega | (dsimp only at h ⊢; omega))
    replace RD := RD.md m35
    replace OY := OY.md m35
    replace hCF := hCF.md m35
    replace hRF := hRF.md m35
    replace B4 := B4.md m35
    replace B32 := B32.md m35
    have zm35 := m35.size
    refine S_nl rfl rfl ?_
    refine th_n (hK20 _ _ ?_)
    clear hK20 K20
    refine wp_ret ?_
    refine ret_rc (cs := [_, _]) U26 rfl sz26 rfl rfl (B1.row (by rfl)) ?_
    first | exact ⟨_, _, _, _, _, _, _, _, rfl, by simp, by simp, sL.size, by omega, hCF.weak (fun i hi => by first | omega | (dsimp only at hi ⊢; omega)), hRF.weak (fun i hi => by first | omega | (dsimp only at hi ⊢; omega)), RD, G⟩ | exact ⟨_, _, _, _, _, _, _, _, rfl, by simp, by simp, sL.root _ _, by omega, hCF.weak (fun i hi => by first | omega | (dsimp only at hi ⊢; omega)), hRF.weak (fun i hi => by first | omega | (dsimp only at hi ⊢; omega)), RD, G⟩ | exact ⟨_, _, _, _, _, _, _, _, rfl, by simp, by simp, sL.more (by simp), by omega, hCF.weak (fun i hi => by first | omega | (dsimp only at hi ⊢; omega)), hRF.weak (fun i hi => by first | omega | (dsimp only at hi ⊢; omega)), RD, G⟩ | exact ⟨_, _, _, _, _, _, _, _, rfl, by simp, by simp, sL.rest, by omega, hCF.weak (fun i hi => by first | omega | (dsimp only at hi ⊢; omega)), hRF.weak (fun i hi => by first | omega | (dsimp only at hi ⊢; omega)), RD, G⟩
   refine E_bsN (cs := [_, _]) (i := 7) rfl U24 zr3 sz3 rfl rfl ?_
   intro b36 w36 fb36 g36 B36
   refine ⟨GS24.grow g36, ?_⟩
   have lb36 := B36.lt
   replace OX := OX.grow g36
   replace RD := RD.grow g36
   replace G := G.grow g36
   replace GS24 := GS24.grow g36
   replace B1 := B1.grow g36
   replace B4 := B4.grow g36
   have zg36 := g36.size
   refine D_1 (i := 3) (by kernel_rfl) ?_
   refine E_call rfl rfl en50 (spec_l20Rd_pick_c _ _ _ _ RD (by omega) (by omega)) ?_
   rintro v37 w37 ⟨k37, rfl, hk37, RD37, m37⟩
   obtain ⟨kX, rfl⟩ : ∃ x, x = k37 := ⟨_, rfl⟩
   have hkX := hk37 (by decide)
   replace RD := RD37
   clear RD37
   replace G := Mod.trans' G m37 (fun _ h _ => h) (fun i h hl => by first | exact h | omega | (dsimp only at h ⊢; omega))
   replace GS24 := GS24.trn m37
   replace OX := OX.md m37
   replace B1 := B1.md m37
   replace B4 := B4.md m37
   replace B36 := B36.md m37
   have zm37 := m37.size
   refine ⟨GS24, ?_⟩
   refine D_1 (i := 9) (by kernel_rfl) ?_
   refine E_call rfl rfl en50 (spec_l20Rd_pick_c _ _ _ _ RD (by omega) (by omega)) ?_
   rintro v38 w38 ⟨k38, rfl, hk38, RD38, m38⟩
   obtain ⟨kY, rfl⟩ : ∃ x, x = k38 := ⟨_, rfl⟩
   have hkY := hk38 (by decide)
   replace RD := RD38
   clear RD38
   replace G := Mod.trans' G m38 (fun _ h _ => h) (fun i h hl => by first | exact h | omega | (dsimp only at h ⊢; omega))
   replace GS24 := GS24.trn m38
   replace OX := OX.md m38
   replace B1 := B1.md m38
   replace B4 := B4.md m38
   replace B36 := B36.md m38
   have zm38 := m38.size
   refine ⟨GS24, ?_⟩
   refine Dq (i := 10) rfl GS24 (fun _ _ => Y_index U24 sz3 rfl rfl (by first | assumption | omega)) ?_
   refine D_1 (i := 11) (by kernel_rfl) ?_
   obtain ⟨xv, hxv⟩ := Blk.pickI (l := [-2, (hL.cells.length : Int)]) B36 (k := kY) (by show kY < 2; omega)
   refine E_val (i := 11) rfl (Y_load U3 rfl rfl hxv) GS24 ?_
   refine Dq (i := 12) rfl GS24 (fun _ _ => Y_index U24 sz3 rfl rfl (by first | assumption | omega)) ?_
   refine D_1 (i := 13) (by kernel_rfl) ?_
   refine E_of (i := 13) rfl (Ys_root sz3 OX hne (k := kX) (by omega) rfl rfl) ?_
   rintro w40 ⟨m40, hp40, OY⟩
   try dsimp only at hp40
   replace G := Mod.trans' G m40 (fun _ h _ => h) (fun i h hl => by first | exact h | omega | (dsimp only at h ⊢; omega))
   replace GS24 := GS24.trn m40
   replace RD := RD.md m40
   replace B1 := B1.md m40
   replace B4 := B4.md m40
   replace B36 := B36.md m40
   have zm40 := m40.size
   have hCF := OY.rc
   have hRF := OY.r1
   refine ⟨GS24, ?_⟩
   refine D_en (by kernel_rfl) rfl rfl ?_
   refine ib_n ?_
   refine th_n (hK13 _ _ ?_)
   clear hK13 K13
   refine wp_seq_k fun K21 hK21 => ?_
   refine Sb 142 rfl ?_
   refine S_val (Y_loadS U26 rfl sz26 rfl (B4.row (by rfl))) ?_
   refine S_stM (pre := []) (old := [_, _]) (post := []) (vs := [_, _]) sz26 rfl rfl rfl (by first | rfl | assumption) B1 rfl rfl ?_
   intro w41 m41 X41
   replace B1 := Blk.eq (ys := [_, _]) X41 rfl
   clear X41
   replace G := Mod.trans' G m41 (fun _ h _ => h) (fun i h hl => by first | exact h | omega | (dsimp only at h ⊢; omega))
   replace RD := RD.md m41
   replace OY := OY.md m41
   replace hCF := hCF.md m41
   replace hRF := hRF.md m41
   replace B4 := B4.md m41
   replace B36 := B36.md m41
   have zm41 := m41.size
   refine S_nl rfl rfl ?_
   refine th_n (hK21 _ _ ?_)
   clear hK21 K21
   refine wp_ret ?_
   refine ret_rc (cs := [_, _]) U26 rfl sz26 rfl rfl (B1.row (by rfl)) ?_
   first | exact ⟨_, _, _, _, _, _, _, _, rfl, by simp, by simp, sL.size, by omega, hCF.weak (fun i hi => by first | omega | (dsimp only at hi ⊢; omega)), hRF.weak (fun i hi => by first | omega | (dsimp only at hi ⊢; omega)), RD, G⟩ | exact ⟨_, _, _, _, _, _, _, _, rfl, by simp, by simp, sL.root _ _, by omega, hCF.weak (fun i hi => by first | omega | (dsimp only at hi ⊢; omega)), hRF.weak (fun i hi => by first | omega | (dsimp only at hi ⊢; omega)), RD, G⟩ | exact ⟨_, _, _, _, _, _, _, _, rfl, by simp, by simp, sL.more (by simp), by omega, hCF.weak (fun i hi => by first | omega | (dsimp only at hi ⊢; omega)), hRF.weak (fun i hi => by first | omega | (dsimp only at hi ⊢; omega)), RD, G⟩ | exact ⟨_, _, _, _, _, _, _, _, rfl, by simp, by simp, sL.rest, by omega, hCF.weak (fun i hi => by first | omega | (dsimp only at hi ⊢; omega)), hRF.weak (fun i hi => by first | omega | (dsimp only at hi ⊢; omega)), RD, G⟩
  replace hb3 := nb_tf hb3
  refine wp_seq_k fun K22 hK22 => ?_
  refine Sb 142 rfl ?_
  refine S_val (Y_eql rfl rfl) ?_
  refine Sas rfl ?_
  refine S_nl rfl rfl ?_
  refine th_n (hK22 _ _ ?_)
  clear hK22 K22
  refine S_if rfl (fun hb4 => ?_) (fun hb4 => ?_)
  ·
   replace hb4 := nb_tt hb4
   refine Sb 142 rfl ?_
   refine S_val (Y_field U26 rfl fz26_0 (by decide) rfl) ?_
   refine S_val (Y_load U23 rfl rfl (B4.at (by rfl))) ?_
   refine S_val (Y_build (cs := [_, _, _]) zr50 pc50 rfl rfl) ?_
   refine S_bs1 (cs := [_, _, _]) U23 zr50 sz50 rfl rfl rfl ?_
   intro b42 w42 fb42 g42 B42
   have lb42 := B42.lt
   replace OX := OX.grow g42
   replace RD := RD.grow g42
   replace G := G.grow g42
   replace B1 := B1.grow g42
   replace B4 := B4.grow g42
   have zg42 := g42.size
   refine S_app2 U23 zr50 sz50 by50 rfl rfl OX.row rfl (Src.blk B42) (by simp [Value.oneCell']) (by omega) (Pr' := (fun i => w.heap.size ≤ i ∧ i ≠ b1 ∧ i ≠ b4)) (fun i hi => by first | omega | (dsimp only at hi ⊢; omega)) (by first | omega | (dsimp only; omega)) ?_
   intro A43 cap43 w43 X43 m43 n43
   have OY := OX.add hne (z := ⟨false, 5, []⟩) (OI.nil No _ _ none) (fun i hi => by first | exact hi.elim | omega | (dsimp only at hi ⊢; omega)) n43 X43 (fun i hi => by first | omega | (dsimp only at hi ⊢; omega)) (fun i hi => by first | exact hi.elim | omega | (dsimp only at hi ⊢; omega))
   replace G := Mod.trans' G m43 (fun _ h _ => h) (fun i h hl => by first | exact h | omega | (dsimp only at h ⊢; omega))
   replace RD := RD.md m43
   replace B1 := B1.md m43
   replace B4 := B4.md m43
   have zm43 := m43.size
   have hCF := OY.rc
   have hRF := OY.r1
   refine S_val (Y_field U26 rfl fz26_0 (by decide) rfl) ?_
   refine S_stM (pre := []) (old := [_]) (post := [_]) (vs := [_]) sz23 rfl rfl rfl (by first | rfl | assumption) B4 rfl rfl ?_
   intro w44 m44 X44
   replace B4 := Blk.eq (ys := [_, _]) X44 rfl
   clear X44
   replace G := Mod.trans' G m44 (fun _ h _ => h) (fun i h hl => by first | exact h | omega | (dsimp only at h ⊢; omega))
   replace RD := RD.md m44
   replace OY := OY.md m44
   replace hCF := hCF.md m44
   replace hRF := hRF.md m44
   replace B1 := B1.md m44
   have zm44 := m44.size
   refine S_nl rfl rfl ?_
   refine ib_n ?_
   refine th_n (hK13 _ _ ?_)
   clear hK13 K13
   refine wp_seq_k fun K23 hK23 => ?_
   refine Sb 142 rfl ?_
   refine S_val (Y_loadS U26 rfl sz26 rfl (B4.row (by rfl))) ?_
   refine S_stM (pre := []) (old := [_, _]) (post := []) (vs := [_, _]) sz26 rfl rfl rfl (by first | rfl | assumption) B1 rfl rfl ?_
   intro w45 m45 X45
   replace B1 := Blk.eq (ys := [_, _]) X45 rfl
   clear X45
   replace G := Mod.trans' G m45 (fun _ h _ => h) (fun i h hl => by first | exact h | omega | (dsimp only at h ⊢; omega))
   replace RD := RD.md m45
   replace OY := OY.md m45
   replace hCF := hCF.md m45
   replace hRF := hRF.md m45
   replace B4 := B4.md m45
   have zm45 := m45.size
   refine S_nl rfl rfl ?_
   refine th_n (hK23 _ _ ?_)
   clear hK23 K23
   refine wp_ret ?_
   refine ret_rc (cs := [_, _]) U26 rfl sz26 rfl rfl (B1.row (by rfl)) ?_
   first | exact ⟨_, _, _, _, _, _, _, _, rfl, by simp, by simp, sL.size, by omega, hCF.weak (fun i hi => by first | omega | (dsimp only at hi ⊢; omega)), hRF.weak (fun i hi => by first | omega | (dsimp only at hi ⊢; omega)), RD, G⟩ | exact ⟨_, _, _, _, _, _, _, _, rfl, by simp, by simp, sL.root _ _, by omega, hCF.weak (fun i hi => by first | omega | (dsimp only at hi ⊢; omega)), hRF.weak (fun i hi => by first | omega | (dsimp only at hi ⊢; omega)), RD, G⟩ | exact ⟨_, _, _, _, _, _, _, _, rfl, by simp, by simp, sL.more (by simp), by omega, hCF.weak (fun i hi => by first | omega | (dsimp only at hi ⊢; omega)), hRF.weak (fun i hi => by first | omega | (dsimp only at hi ⊢; omega)), RD, G⟩ | exact ⟨_, _, _, _, _, _, _, _, rfl, by simp, by simp, sL.rest, by omega, hCF.weak (fun i hi => by first | omega | (dsimp only at hi ⊢; omega)), hRF.weak (fun i hi => by first | omega | (dsimp only at hi ⊢; omega)), RD, G⟩
  replace hb4 := nb_tf hb4
  refine wp_seq_k fun K24 hK24 => ?_
  refine Sb 142 rfl ?_
  refine S_val (Y_eql rfl rfl) ?_
  refine Sas rfl ?_
  refine S_nl rfl rfl ?_
  refine th_n (hK24 _ _ ?_)
  clear hK24 K24
  refine S_if rfl (fun hb5 => ?_) (fun hb5 => ?_)
  ·
   replace hb5 := nb_tt hb5
   refine Sb 142 rfl ?_
   refine S_val (Y_field U26 rfl fz26_0 (by decide) rfl) ?_
   refine S_val (Y_load U23 rfl rfl (B4.at (by rfl))) ?_
   refine S_val (Y_field U26 rfl fz26_0 (by decide) rfl) ?_
   refine S_val (Y_load U23 rfl rfl (B4.at (by rfl))) ?_
   refine S_val (Y_len U23 rfl) ?_
   refine S_val (Y_inc rfl rfl (by omega)) ?_
   refine S_bs1 (cs := [_]) U24 zr3 sz3 rfl rfl rfl ?_
   intro b46 w46 fb46 g46 B46
   have lb46 := B46.lt
   replace OX := OX.grow g46
   replace RD := RD.grow g46
   replace G := G.grow g46
   replace B1 := B1.grow g46
   replace B4 := B4.grow g46
   have zg46 := g46.size
   refine S_val (Y_build (cs := [_, _, _]) zr50 pc50 rfl rfl) ?_
   refine S_bs1 (cs := [_, _, _]) U23 zr50 sz50 rfl rfl rfl ?_
   intro b47 w47 fb47 g47 B47
   have lb47 := B47.lt
   replace OX := OX.grow g47
   replace RD := RD.grow g47
   replace G := G.grow g47
   replace B1 := B1.grow g47
   replace B4 := B4.grow g47
   replace B46 := B46.grow g47
   have zg47 := g47.size
   refine S_app2 U23 zr50 sz50 by50 rfl rfl OX.row rfl (Src.blk B47) (by simp [Value.oneCell']) (by omega) (Pr' := (fun i => w.heap.size ≤ i ∧ i ≠ b1 ∧ i ≠ b4)) (fun i hi => by first | omega | (dsimp only at hi ⊢; omega)) (by first | omega | (dsimp only; omega)) ?_
   intro A48 cap48 w48 X48 m48 n48
   have OY := OX.add hne (z := ⟨true, 0, [((hL.cells.length + 1 : Nat) : Int)]⟩) (OI.of_blk' (Pr := fun i => i = b46) B46 rfl) (fun i hi => by first | exact hi.elim | omega | (dsimp only at hi ⊢; omega)) n48 X48 (fun i hi => by first | omega | (dsimp only at hi ⊢; omega)) (fun i hi => by first | exact hi.elim | omega | (dsimp only at hi ⊢; omega))
   replace G := Mod.trans' G m48 (fun _ h _ => h) (fun i h hl => by first | exact h | omega | (dsimp only at h ⊢; omega))
   replace RD := RD.md m48
   replace B1 := B1.md m48
   replace B4 := B4.md m48
   replace B46 := B46.md m48
   have zm48 := m48.size
   have hCF := OY.rc
   have hRF := OY.r1
   refine S_val (Y_field U26 rfl fz26_0 (by decide) rfl) ?_
   refine S_stM (pre := []) (old := [_]) (post := [_]) (vs := [_]) sz23 rfl rfl rfl (by first | rfl | assumption) B4 rfl rfl ?_
   intro w49 m49 X49
   replace B4 := Blk.eq (ys := [_, _]) X49 rfl
   clear X49
   replace G := Mod.trans' G m49 (fun _ h _ => h) (fun i h hl => by first | exact h | omega | (dsimp only at h ⊢; omega))
   replace RD := RD.md m49
   replace OY := OY.md m49
   replace hCF := hCF.md m49
   replace hRF := hRF.md m49
   replace B1 := B1.md m49
   replace B46 := B46.md m49
   have zm49 := m49.size
   refine S_nl rfl rfl ?_
   refine ib_n ?_
   refine th_n (hK13 _ _ ?_)
   clear hK13 K13
   refine wp_seq_k fun K25 hK25 => ?_
   refine Sb 142 rfl ?_
   refine S_val (Y_loadS U26 rfl sz26 rfl (B4.row (by rfl))) ?_
   refine S_stM (pre := []) (old := [_, _]) (post := []) (vs := [_, _]) sz26 rfl rfl rfl (by first | rfl | assumption) B1 rfl rfl ?_
   intro w50 m50 X50
   replace B1 := Blk.eq (ys := [_, _]) X50 rfl
   clear X50
   replace G := Mod.trans' G m50 (fun _ h _ => h) (fun i h hl => by first | exact h | omega | (dsimp only at h ⊢; omega))
   replace RD := RD.md m50
   replace OY := OY.md m50
   replace hCF := hCF.md m50
   replace hRF := hRF.md m50
   replace B4 := B4.md m50
   replace B46 := B46.md m50
   have zm50 := m50.size
   refine S_nl rfl rfl ?_
   refine th_n (hK25 _ _ ?_)
   clear hK25 K25
   refine wp_ret ?_
   refine ret_rc (cs := [_, _]) U26 rfl sz26 rfl rfl (B1.row (by rfl)) ?_
   first | exact ⟨_, _, _, _, _, _, _, _, rfl, by simp, by simp, sL.size, by omega, hCF.weak (fun i hi => by first | omega | (dsimp only at hi ⊢; omega)), hRF.weak (fun i hi => by first | omega | (dsimp only at hi ⊢; omega)), RD, G⟩ | exact ⟨_, _, _, _, _, _, _, _, rfl, by simp, by simp, sL.root _ _, by omega, hCF.weak (fun i hi => by first | omega | (dsimp only at hi ⊢; omega)), hRF.weak (fun i hi => by first | omega | (dsimp only at hi ⊢; omega)), RD, G⟩ | exact ⟨_, _, _, _, _, _, _, _, rfl, by simp, by simp, sL.more (by simp), by omega, hCF.weak (fun i hi => by first | omega | (dsimp only at hi ⊢; omega)), hRF.weak (fun i hi => by first | omega | (dsimp only at hi ⊢; omega)), RD, G⟩ | exact ⟨_, _, _, _, _, _, _, _, rfl, by simp, by simp, sL.rest, by omega, hCF.weak (fun i hi => by first | omega | (dsimp only at hi ⊢; omega)), hRF.weak (fun i hi => by first | omega | (dsimp only at hi ⊢; omega)), RD, G⟩
  replace hb5 := nb_tf hb5
  refine D_start 12 142 (fun w => Mod (fun i => i = bR ∨ (z0 ≤ i ∧ i ≠ b1)) w) follows rfl rfl ?_
  intro w51 g51
  replace OX := OX.grow g51
  replace RD := RD.grow g51
  replace G := G.grow g51
  replace B1 := B1.grow g51
  replace B4 := B4.grow g51
  have zg51 := g51.size
  have GS51 := Mod.refl (fun i => i = bR ∨ (z0 ≤ i ∧ i ≠ b1)) w51
  refine Dq (i := 0) rfl GS51 (fun _ _ => Y_field U26 rfl fz26_0 (by decide) rfl) ?_
  refine Dq (i := 3) rfl GS51 (fun _ _ => Y_move rfl) ?_
  refine D_3 (i := 1) (j := 2) (k := 4) (by kernel_rfl) ?_ ?_ ?_
  ·
   refine E_val (i := 1) rfl (Y_load U23 rfl rfl (B4.at (by rfl))) GS51 ?_
   refine D_2 (i := 2) (j := 4) (by kernel_rfl) ?_ ?_
   ·
    refine E_bsN (cs := [_, _]) (i := 2) rfl U24 zr3 sz3 rfl rfl ?_
    intro b53 w53 fb53 g53 B53
    refine ⟨GS51.grow g53, ?_⟩
    have lb53 := B53.lt
    replace OX := OX.grow g53
    replace RD := RD.grow g53
    replace G := G.grow g53
    replace GS51 := GS51.grow g53
    replace B1 := B1.grow g53
    replace B4 := B4.grow g53
    have zg53 := g53.size
    refine D_1 (i := 4) (by kernel_rfl) ?_
    refine E_call rfl rfl en50 (spec_l20Rd_pick_c _ _ _ _ RD (by omega) (by omega)) ?_
    rintro v54 w54 ⟨k54, rfl, hk54, RD54, m54⟩
    obtain ⟨kY, rfl⟩ : ∃ x, x = k54 := ⟨_, rfl⟩
    have hkY := hk54 (by decide)
    replace RD := RD54
    clear RD54
    replace G := Mod.trans' G m54 (fun _ h _ => h) (fun i h hl => by first | exact h | omega | (dsimp only at h ⊢; omega))
    replace GS51 := GS51.trn m54
    replace OX := OX.md m54
    replace B1 := B1.md m54
    replace B4 := B4.md m54
    replace B53 := B53.md m54
    have zm54 := m54.size
    refine ⟨GS51, ?_⟩
    refine Dq (i := 5) rfl GS51 (fun _ _ => Y_index U24 sz3 rfl rfl (by first | assumption | omega)) ?_
    refine D_1 (i := 6) (by kernel_rfl) ?_
    obtain ⟨xv, hxv⟩ := Blk.pickI (l := [-1, 100]) B53 (k := kY) (by show kY < 2; omega)
    refine E_val (i := 6) rfl (Y_load U3 rfl rfl hxv) GS51 ?_
    refine Dq (i := 7) rfl GS51 (fun _ _ => Y_build (cs := [_, _, _]) zr50 pc50 rfl rfl) ?_
    refine D_1 (i := 8) (by kernel_rfl) ?_
    refine E_bs1 (cs := [_, _, _]) (i := 8) rfl U23 zr50 sz50 rfl rfl rfl ?_
    intro b56 w56 fb56 g56 B56
    refine ⟨GS51.grow g56, ?_⟩
    have lb56 := B56.lt
    replace OX := OX.grow g56
    replace RD := RD.grow g56
    replace G := G.grow g56
    replace GS51 := GS51.grow g56
    replace B1 := B1.grow g56
    replace B4 := B4.grow g56
    replace B53 := B53.grow g56
    have zg56 := g56.size
    refine D_1 (i := 9) (by kernel_rfl) ?_
    refine E_app2 (i := 9) rfl U23 zr50 sz50 by50 rfl rfl OX.row rfl (Src.blk B56) (by simp [Value.oneCell']) (by omega) (Pr' := (fun i => w.heap.size ≤ i ∧ i ≠ b1 ∧ i ≠ b4)) (fun i hi => by first | omega | (dsimp only at hi ⊢; omega)) (by first | omega | (dsimp only; omega)) ?_
    intro A57 cap57 w57 X57 m57 n57
    have OY := OX.add hne (z := ⟨true, xv, []⟩) (OI.nil No _ _ none) (fun i hi => by first | exact hi.elim | omega | (dsimp only at hi ⊢; omega)) n57 X57 (fun i hi => by first | omega | (dsimp only at hi ⊢; omega)) (fun i hi => by first | exact hi.elim | omega | (dsimp only at hi ⊢; omega))
    replace G := Mod.trans' G m57 (fun _ h _ => h) (fun i h hl => by first | exact h | omega | (dsimp only at h ⊢; omega))
    replace GS51 := GS51.trn m57
    replace RD := RD.md m57
    replace B1 := B1.md m57
    replace B4 := B4.md m57
    replace B53 := B53.md m57
    have zm57 := m57.size
    have hCF := OY.rc
    have hRF := OY.r1
    refine ⟨GS51, ?_⟩
    refine Dq (i := 10) rfl GS51 (fun _ _ => Y_field U26 rfl fz26_0 (by decide) rfl) ?_
    refine D_1 (i := 11) (by kernel_rfl) ?_
    refine E_stM (pre := []) (old := [_]) (post := [_]) (vs := [_]) (i := 11) rfl sz23 rfl rfl rfl (by first | rfl | assumption) B4 rfl rfl ?_
    intro w58 m58 X58
    replace B4 := Blk.eq (ys := [_, _]) X58 rfl
    clear X58
    replace G := Mod.trans' G m58 (fun _ h _ => h) (fun i h hl => by first | exact h | omega | (dsimp only at h ⊢; omega))
    replace GS51 := GS51.trn m58
    replace RD := RD.md m58
    replace OY := OY.md m58
    replace hCF := hCF.md m58
    replace hRF := hRF.md m58
    replace B1 := B1.md m58
    replace B53 := B53.md m58
    have zm58 := m58.size
    refine ⟨GS51, ?_⟩
    refine D_en (by kernel_rfl) rfl rfl ?_
    refine ib_n ?_
    refine th_n (hK13 _ _ ?_)
    clear hK13 K13
    refine wp_seq_k fun K26 hK26 => ?_
    refine Sb 142 rfl ?_
    refine S_val (Y_loadS U26 rfl sz26 rfl (B4.row (by rfl))) ?_
    refine S_stM (pre := []) (old := [_, _]) (post := []) (vs := [_, _]) sz26 rfl rfl rfl (by first | rfl | assumption) B1 rfl rfl ?_
    intro w59 m59 X59
    replace B1 := Blk.eq (ys := [_, _]) X59 rfl
    clear X59
    replace G := Mod.trans' G m59 (fun _ h _ => h) (fun i h hl => by first | exact h | omega | (dsimp only at h ⊢; omega))
    replace RD := RD.md m59
    replace OY := OY.md m59
    replace hCF := hCF.md m59
    replace hRF := hRF.md m59
    replace B4 := B4.md m59
    replace B53 := B53.md m59
    have zm59 := m59.size
    refine S_nl rfl rfl ?_
    refine th_n (hK26 _ _ ?_)
    clear hK26 K26
    refine wp_ret ?_
    refine ret_rc (cs := [_, _]) U26 rfl sz26 rfl rfl (B1.row (by rfl)) ?_
    first | exact ⟨_, _, _, _, _, _, _, _, rfl, by simp, by simp, sL.size, by omega, hCF.weak (fun i hi => by first | omega | (dsimp only at hi ⊢; omega)), hRF.weak (fun i hi => by first | omega | (dsimp only at hi ⊢; omega)), RD, G⟩ | exact ⟨_, _, _, _, _, _, _, _, rfl, by simp, by simp, sL.root _ _, by omega, hCF.weak (fun i hi => by first | omega | (dsimp only at hi ⊢; omega)), hRF.weak (fun i hi => by first | omega | (dsimp only at hi ⊢; omega)), RD, G⟩ | exact ⟨_, _, _, _, _, _, _, _, rfl, by simp, by simp, sL.more (by simp), by omega, hCF.weak (fun i hi => by first | omega | (dsimp only at hi ⊢; omega)), hRF.weak (fun i hi => by first | omega | (dsimp only at hi ⊢; omega)), RD, G⟩ | exact ⟨_, _, _, _, _, _, _, _, rfl, by simp, by simp, sL.rest, by omega, hCF.weak (fun i hi => by first | omega | (dsimp only at hi ⊢; omega)), hRF.weak (fun i hi => by first | omega | (dsimp only at hi ⊢; omega)), RD, G⟩
   refine E_call rfl rfl en50 (spec_l20Rd_pick_c _ _ _ _ RD (by omega) (by omega)) ?_
   rintro v60 w60 ⟨k60, rfl, hk60, RD60, m60⟩
   obtain ⟨kY, rfl⟩ : ∃ x, x = k60 := ⟨_, rfl⟩
   have hkY := hk60 (by decide)
   replace RD := RD60
   clear RD60
   replace G := Mod.trans' G m60 (fun _ h _ => h) (fun i h hl => by first | exact h | omega | (dsimp only at h ⊢; omega))
   replace GS51 := GS51.trn m60
   replace OX := OX.md m60
   replace B1 := B1.md m60
   replace B4 := B4.md m60
   have zm60 := m60.size
   refine ⟨GS51, ?_⟩
   refine D_1 (i := 2) (by kernel_rfl) ?_
   refine E_bsN (cs := [_, _]) (i := 2) rfl U24 zr3 sz3 rfl rfl ?_
   intro b61 w61 fb61 g61 B61
   refine ⟨GS51.grow g61, ?_⟩
   have lb61 := B61.lt
   replace OX := OX.grow g61
   replace RD := RD.grow g61
   replace G := G.grow g61
   replace GS51 := GS51.grow g61
   replace B1 := B1.grow g61
   replace B4 := B4.grow g61
   have zg61 := g61.size
   refine Dq (i := 5) rfl GS51 (fun _ _ => Y_index U24 sz3 rfl rfl (by first | assumption | omega)) ?_
   refine D_1 (i := 6) (by kernel_rfl) ?_
   obtain ⟨xv, hxv⟩ := Blk.pickI (l := [-1, 100]) B61 (k := kY) (by show kY < 2; omega)
   refine E_val (i := 6) rfl (Y_load U3 rfl rfl hxv) GS51 ?_
   refine Dq (i := 7) rfl GS51 (fun _ _ => Y_build (cs := [_, _, _]) zr50 pc50 rfl rfl) ?_
   refine D_1 (i := 8) (by kernel_rfl) ?_
   refine E_bs1 (cs := [_, _, _]) (i := 8) rfl U23 zr50 sz50 rfl rfl rfl ?_
   intro b63 w63 fb63 g63 B63
   refine ⟨GS51.grow g63, ?_⟩
   have lb63 := B63.lt
   replace OX := OX.grow g63
   replace RD := RD.grow g63
   replace G := G.grow g63
   replace GS51 := GS51.grow g63
   replace B1 := B1.grow g63
   replace B4 := B4.grow g63
   replace B61 := B61.grow g63
   have zg63 := g63.size
   refine D_1 (i := 9) (by kernel_rfl) ?_
   refine E_app2 (i := 9) rfl U23 zr50 sz50 by50 rfl rfl OX.row rfl (Src.blk B63) (by simp [Value.oneCell']) (by omega) (Pr' := (fun i => w.heap.size ≤ i ∧ i ≠ b1 ∧ i ≠ b4)) (fun i hi => by first | omega | (dsimp only at hi ⊢; omega)) (by first | omega | (dsimp only; omega)) ?_
   intro A64 cap64 w64 X64 m64 n64
   have OY := OX.add hne (z := ⟨true, xv, []⟩) (OI.nil No _ _ none) (fun i hi => by first | exact hi.elim | omega | (dsimp only at hi ⊢; omega)) n64 X64 (fun i hi => by first | omega | (dsimp only at hi ⊢; omega)) (fun i hi => by first | exact hi.elim | omega | (dsimp only at hi ⊢; omega))
   replace G := Mod.trans' G m64 (fun _ h _ => h) (fun i h hl => by first | exact h | omega | (dsimp only at h ⊢; omega))
   replace GS51 := GS51.trn m64
   replace RD := RD.md m64
   replace B1 := B1.md m64
   replace B4 := B4.md m64
   replace B61 := B61.md m64
   have zm64 := m64.size
   have hCF := OY.rc
   have hRF := OY.r1
   refine ⟨GS51, ?_⟩
   refine Dq (i := 10) rfl GS51 (fun _ _ => Y_field U26 rfl fz26_0 (by decide) rfl) ?_
   refine D_1 (i := 11) (by kernel_rfl) ?_
   refine E_stM (pre := []) (old := [_]) (post := [_]) (vs := [_]) (i := 11) rfl sz23 rfl rfl rfl (by first | rfl | assumption) B4 rfl rfl ?_
   intro w65 m65 X65
   replace B4 := Blk.eq (ys := [_, _]) X65 rfl
   clear X65
   replace G := Mod.trans' G m65 (fun _ h _ => h) (fun i h hl => by first | exact h | omega | (dsimp only at h ⊢; omega))
   replace GS51 := GS51.trn m65
   replace RD := RD.md m65
   replace OY := OY.md m65
   replace hCF := hCF.md m65
   replace hRF := hRF.md m65
   replace B1 := B1.md m65
   replace B61 := B61.md m65
   have zm65 := m65.size
   refine ⟨GS51, ?_⟩
   refine D_en (by kernel_rfl) rfl rfl ?_
   refine ib_n ?_
   refine th_n (hK13 _ _ ?_)
   clear hK13 K13
   refine wp_seq_k fun K27 hK27 => ?_
   refine Sb 142 rfl ?_
   refine S_val (Y_loadS U26 rfl sz26 rfl (B4.row (by rfl))) ?_
   refine S_stM (pre := []) (old := [_, _]) (post := []) (vs := [_, _]) sz26 rfl rfl rfl (by first | rfl | assumption) B1 rfl rfl ?_
   intro w66 m66 X66
   replace B1 := Blk.eq (ys := [_, _]) X66 rfl
   clear X66
   replace G := Mod.trans' G m66 (fun _ h _ => h) (fun i h hl => by first | exact h | omega | (dsimp only at h ⊢; omega))
   replace RD := RD.md m66
   replace OY := OY.md m66
   replace hCF := hCF.md m66
   replace hRF := hRF.md m66
   replace B4 := B4.md m66
   replace B61 := B61.md m66
   have zm66 := m66.size
   refine S_nl rfl rfl ?_
   refine th_n (hK27 _ _ ?_)
   clear hK27 K27
   refine wp_ret ?_
   refine ret_rc (cs := [_, _]) U26 rfl sz26 rfl rfl (B1.row (by rfl)) ?_
   first | exact ⟨_, _, _, _, _, _, _, _, rfl, by simp, by simp, sL.size, by omega, hCF.weak (fun i hi => by first | omega | (dsimp only at hi ⊢; omega)), hRF.weak (fun i hi => by first | omega | (dsimp only at hi ⊢; omega)), RD, G⟩ | exact ⟨_, _, _, _, _, _, _, _, rfl, by simp, by simp, sL.root _ _, by omega, hCF.weak (fun i hi => by first | omega | (dsimp only at hi ⊢; omega)), hRF.weak (fun i hi => by first | omega | (dsimp only at hi ⊢; omega)), RD, G⟩ | exact ⟨_, _, _, _, _, _, _, _, rfl, by simp, by simp, sL.more (by simp), by omega, hCF.weak (fun i hi => by first | omega | (dsimp only at hi ⊢; omega)), hRF.weak (fun i hi => by first | omega | (dsimp only at hi ⊢; omega)), RD, G⟩ | exact ⟨_, _, _, _, _, _, _, _, rfl, by simp, by simp, sL.rest, by omega, hCF.weak (fun i hi => by first | omega | (dsimp only at hi ⊢; omega)), hRF.weak (fun i hi => by first | omega | (dsimp only at hi ⊢; omega)), RD, G⟩
  ·
   refine E_bsN (cs := [_, _]) (i := 2) rfl U24 zr3 sz3 rfl rfl ?_
   intro b67 w67 fb67 g67 B67
   refine ⟨GS51.grow g67, ?_⟩
   have lb67 := B67.lt
   replace OX := OX.grow g67
   replace RD := RD.grow g67
   replace G := G.grow g67
   replace GS51 := GS51.grow g67
   replace B1 := B1.grow g67
   replace B4 := B4.grow g67
   have zg67 := g67.size
   refine D_2 (i := 1) (j := 4) (by kernel_rfl) ?_ ?_
   ·
    refine E_val (i := 1) rfl (Y_load U23 rfl rfl (B4.at (by rfl))) GS51 ?_
    refine D_1 (i := 4) (by kernel_rfl) ?_
    refine E_call rfl rfl en50 (spec_l20Rd_pick_c _ _ _ _ RD (by omega) (by omega)) ?_
    rintro v69 w69 ⟨k69, rfl, hk69, RD69, m69⟩
    obtain ⟨kY, rfl⟩ : ∃ x, x = k69 := ⟨_, rfl⟩
    have hkY := hk69 (by decide)
    replace RD := RD69
    clear RD69
    replace G := Mod.trans' G m69 (fun _ h _ => h) (fun i h hl => by first | exact h | omega | (dsimp only at h ⊢; omega))
    replace GS51 := GS51.trn m69
    replace OX := OX.md m69
    replace B1 := B1.md m69
    replace B4 := B4.md m69
    replace B67 := B67.md m69
    have zm69 := m69.size
    refine ⟨GS51, ?_⟩
    refine Dq (i := 5) rfl GS51 (fun _ _ => Y_index U24 sz3 rfl rfl (by first | assumption | omega)) ?_
    refine D_1 (i := 6) (by kernel_rfl) ?_
    obtain ⟨xv, hxv⟩ := Blk.pickI (l := [-1, 100]) B67 (k := kY) (by show kY < 2; omega)
    refine E_val (i := 6) rfl (Y_load U3 rfl rfl hxv) GS51 ?_
    refine Dq (i := 7) rfl GS51 (fun _ _ => Y_build (cs := [_, _, _]) zr50 pc50 rfl rfl) ?_
    refine D_1 (i := 8) (by kernel_rfl) ?_
    refine E_bs1 (cs := [_, _, _]) (i := 8) rfl U23 zr50 sz50 rfl rfl rfl ?_
    intro b71 w71 fb71 g71 B71
    refine ⟨GS51.grow g71, ?_⟩
    have lb71 := B71.lt
    replace OX := OX.grow g71
    replace RD := RD.grow g71
    replace G := G.grow g71
    replace GS51 := GS51.grow g71
    replace B1 := B1.grow g71
    replace B4 := B4.grow g71
    replace B67 := B67.grow g71
    have zg71 := g71.size
    refine D_1 (i := 9) (by kernel_rfl) ?_
    refine E_app2 (i := 9) rfl U23 zr50 sz50 by50 rfl rfl OX.row rfl (Src.blk B71) (by simp [Value.oneCell']) (by omega) (Pr' := (fun i => w.heap.size ≤ i ∧ i ≠ b1 ∧ i ≠ b4)) (fun i hi => by first | omega | (dsimp only at hi ⊢; omega)) (by first | omega | (dsimp only; omega)) ?_
    intro A72 cap72 w72 X72 m72 n72
    have OY := OX.add hne (z := ⟨true, xv, []⟩) (OI.nil No _ _ none) (fun i hi => by first | exact hi.elim | omega | (dsimp only at hi ⊢; omega)) n72 X72 (fun i hi => by first | omega | (dsimp only at hi ⊢; omega)) (fun i hi => by first | exact hi.elim | omega | (dsimp only at hi ⊢; omega))
    replace G := Mod.trans' G m72 (fun _ h _ => h) (fun i h hl => by first | exact h | omega | (dsimp only at h ⊢; omega))
    replace GS51 := GS51.trn m72
    replace RD := RD.md m72
    replace B1 := B1.md m72
    replace B4 := B4.md m72
    replace B67 := B67.md m72
    have zm72 := m72.size
    have hCF := OY.rc
    have hRF := OY.r1
    refine ⟨GS51, ?_⟩
    refine Dq (i := 10) rfl GS51 (fun _ _ => Y_field U26 rfl fz26_0 (by decide) rfl) ?_
    refine D_1 (i := 11) (by kernel_rfl) ?_
    refine E_stM (pre := []) (old := [_]) (post := [_]) (vs := [_]) (i := 11) rfl sz23 rfl rfl rfl (by first | rfl | assumption) B4 rfl rfl ?_
    intro w73 m73 X73
    replace B4 := Blk.eq (ys := [_, _]) X73 rfl
    clear X73
    replace G := Mod.trans' G m73 (fun _ h _ => h) (fun i h hl => by first | exact h | omega | (dsimp only at h ⊢; omega))
    replace GS51 := GS51.trn m73
    replace RD := RD.md m73
    replace OY := OY.md m73
    replace hCF := hCF.md m73
    replace hRF := hRF.md m73
    replace B1 := B1.md m73
    replace B67 := B67.md m73
    have zm73 := m73.size
    refine ⟨GS51, ?_⟩
    refine D_en (by kernel_rfl) rfl rfl ?_
    refine ib_n ?_
    refine th_n (hK13 _ _ ?_)
    clear hK13 K13
    refine wp_seq_k fun K28 hK28 => ?_
    refine Sb 142 rfl ?_
    refine S_val (Y_loadS U26 rfl sz26 rfl (B4.row (by rfl))) ?_
    refine S_stM (pre := []) (old := [_, _]) (post := []) (vs := [_, _]) sz26 rfl rfl rfl (by first | rfl | assumption) B1 rfl rfl ?_
    intro w74 m74 X74
    replace B1 := Blk.eq (ys := [_, _]) X74 rfl
    clear X74
    replace G := Mod.trans' G m74 (fun _ h _ => h) (fun i h hl => by first | exact h | omega | (dsimp only at h ⊢; omega))
    replace RD := RD.md m74
    replace OY := OY.md m74
    replace hCF := hCF.md m74
    replace hRF := hRF.md m74
    replace B4 := B4.md m74
    replace B67 := B67.md m74
    have zm74 := m74.size
    refine S_nl rfl rfl ?_
    refine th_n (hK28 _ _ ?_)
    clear hK28 K28
    refine wp_ret ?_
    refine ret_rc (cs := [_, _]) U26 rfl sz26 rfl rfl (B1.row (by rfl)) ?_
    first | exact ⟨_, _, _, _, _, _, _, _, rfl, by simp, by simp, sL.size, by omega, hCF.weak (fun i hi => by first | omega | (dsimp only at hi ⊢; omega)), hRF.weak (fun i hi => by first | omega | (dsimp only at hi ⊢; omega)), RD, G⟩ | exact ⟨_, _, _, _, _, _, _, _, rfl, by simp, by simp, sL.root _ _, by omega, hCF.weak (fun i hi => by first | omega | (dsimp only at hi ⊢; omega)), hRF.weak (fun i hi => by first | omega | (dsimp only at hi ⊢; omega)), RD, G⟩ | exact ⟨_, _, _, _, _, _, _, _, rfl, by simp, by simp, sL.more (by simp), by omega, hCF.weak (fun i hi => by first | omega | (dsimp only at hi ⊢; omega)), hRF.weak (fun i hi => by first | omega | (dsimp only at hi ⊢; omega)), RD, G⟩ | exact ⟨_, _, _, _, _, _, _, _, rfl, by simp, by simp, sL.rest, by omega, hCF.weak (fun i hi => by first | omega | (dsimp only at hi ⊢; omega)), hRF.weak (fun i hi => by first | omega | (dsimp only at hi ⊢; omega)), RD, G⟩
   refine E_call rfl rfl en50 (spec_l20Rd_pick_c _ _ _ _ RD (by omega) (by omega)) ?_
   rintro v75 w75 ⟨k75, rfl, hk75, RD75, m75⟩
   obtain ⟨kY, rfl⟩ : ∃ x, x = k75 := ⟨_, rfl⟩
   have hkY := hk75 (by decide)
   replace RD := RD75
   clear RD75
   replace G := Mod.trans' G m75 (fun _ h _ => h) (fun i h hl => by first | exact h | omega | (dsimp only at h ⊢; omega))
   replace GS51 := GS51.trn m75
   replace OX := OX.md m75
   replace B1 := B1.md m75
   replace B4 := B4.md m75
   replace B67 := B67.md m75
   have zm75 := m75.size
   refine ⟨GS51, ?_⟩
   refine Dq (i := 5) rfl GS51 (fun _ _ => Y_index U24 sz3 rfl rfl (by first | assumption | omega)) ?_
   refine D_2 (i := 1) (j := 6) (by kernel_rfl) ?_ ?_
   ·
    refine E_val (i := 1) rfl (Y_load U23 rfl rfl (B4.at (by rfl))) GS51 ?_
    refine D_1 (i := 6) (by kernel_rfl) ?_
    obtain ⟨xv, hxv⟩ := Blk.pickI (l := [-1, 100]) B67 (k := kY) (by show kY < 2; omega)
    refine E_val (i := 6) rfl (Y_load U3 rfl rfl hxv) GS51 ?_
    refine Dq (i := 7) rfl GS51 (fun _ _ => Y_build (cs := [_, _, _]) zr50 pc50 rfl rfl) ?_
    refine D_1 (i := 8) (by kernel_rfl) ?_
    refine E_bs1 (cs := [_, _, _]) (i := 8) rfl U23 zr50 sz50 rfl rfl rfl ?_
    intro b78 w78 fb78 g78 B78
    refine ⟨GS51.grow g78, ?_⟩
    have lb78 := B78.lt
    replace OX := OX.grow g78
    replace RD := RD.grow g78
    replace G := G.grow g78
    replace GS51 := GS51.grow g78
    replace B1 := B1.grow g78
    replace B4 := B4.grow g78
    replace B67 := B67.grow g78
    have zg78 := g78.size
    refine D_1 (i := 9) (by kernel_rfl) ?_
    refine E_app2 (i := 9) rfl U23 zr50 sz50 by50 rfl rfl OX.row rfl (Src.blk B78) (by simp [Value.oneCell']) (by omega) (Pr' := (fun i => w.heap.size ≤ i ∧ i ≠ b1 ∧ i ≠ b4)) (fun i hi => by first | omega | (dsimp only at hi ⊢; omega)) (by first | omega | (dsimp only; omega)) ?_
    intro A79 cap79 w79 X79 m79 n79
    have OY := OX.add hne (z := ⟨true, xv, []⟩) (OI.nil No _ _ none) (fun i hi => by first | exact hi.elim | omega | (dsimp only at hi ⊢; omega)) n79 X79 (fun i hi => by first | omega | (dsimp only at hi ⊢; omega)) (fun i hi => by first | exact hi.elim | omega | (dsimp only at hi ⊢; omega))
    replace G := Mod.trans' G m79 (fun _ h _ => h) (fun i h hl => by first | exact h | omega | (dsimp only at h ⊢; omega))
    replace GS51 := GS51.trn m79
    replace RD := RD.md m79
    replace B1 := B1.md m79
    replace B4 := B4.md m79
    replace B67 := B67.md m79
    have zm79 := m79.size
    have hCF := OY.rc
    have hRF := OY.r1
    refine ⟨GS51, ?_⟩
    refine Dq (i := 10) rfl GS51 (fun _ _ => Y_field U26 rfl fz26_0 (by decide) rfl) ?_
    refine D_1 (i := 11) (by kernel_rfl) ?_
    refine E_stM (pre := []) (old := [_]) (post := [_]) (vs := [_]) (i := 11) rfl sz23 rfl rfl rfl (by first | rfl | assumption) B4 rfl rfl ?_
    intro w80 m80 X80
    replace B4 := Blk.eq (ys := [_, _]) X80 rfl
    clear X80
    replace G := Mod.trans' G m80 (fun _ h _ => h) (fun i h hl => by first | exact h | omega | (dsimp only at h ⊢; omega))
    replace GS51 := GS51.trn m80
    replace RD := RD.md m80
    replace OY := OY.md m80
    replace hCF := hCF.md m80
    replace hRF := hRF.md m80
    replace B1 := B1.md m80
    replace B67 := B67.md m80
    have zm80 := m80.size
    refine ⟨GS51, ?_⟩
    refine D_en (by kernel_rfl) rfl rfl ?_
    refine ib_n ?_
    refine th_n (hK13 _ _ ?_)
    clear hK13 K13
    refine wp_seq_k fun K29 hK29 => ?_
    refine Sb 142 rfl ?_
    refine S_val (Y_loadS U26 rfl sz26 rfl (B4.row (by rfl))) ?_
    refine S_stM (pre := []) (old := [_, _]) (post := []) (vs := [_, _]) sz26 rfl rfl rfl (by first | rfl | assumption) B1 rfl rfl ?_
    intro w81 m81 X81
    replace B1 := Blk.eq (ys := [_, _]) X81 rfl
    clear X81
    replace G := Mod.trans' G m81 (fun _ h _ => h) (fun i h hl => by first | exact h | omega | (dsimp only at h ⊢; omega))
    replace RD := RD.md m81
    replace OY := OY.md m81
    replace hCF := hCF.md m81
    replace hRF := hRF.md m81
    replace B4 := B4.md m81
    replace B67 := B67.md m81
    have zm81 := m81.size
    refine S_nl rfl rfl ?_
    refine th_n (hK29 _ _ ?_)
    clear hK29 K29
    refine wp_ret ?_
    refine ret_rc (cs := [_, _]) U26 rfl sz26 rfl rfl (B1.row (by rfl)) ?_
    first | exact ⟨_, _, _, _, _, _, _, _, rfl, by simp, by simp, sL.size, by omega, hCF.weak (fun i hi => by first | omega | (dsimp only at hi ⊢; omega)), hRF.weak (fun i hi => by first | omega | (dsimp only at hi ⊢; omega)), RD, G⟩ | exact ⟨_, _, _, _, _, _, _, _, rfl, by simp, by simp, sL.root _ _, by omega, hCF.weak (fun i hi => by first | omega | (dsimp only at hi ⊢; omega)), hRF.weak (fun i hi => by first | omega | (dsimp only at hi ⊢; omega)), RD, G⟩ | exact ⟨_, _, _, _, _, _, _, _, rfl, by simp, by simp, sL.more (by simp), by omega, hCF.weak (fun i hi => by first | omega | (dsimp only at hi ⊢; omega)), hRF.weak (fun i hi => by first | omega | (dsimp only at hi ⊢; omega)), RD, G⟩ | exact ⟨_, _, _, _, _, _, _, _, rfl, by simp, by simp, sL.rest, by omega, hCF.weak (fun i hi => by first | omega | (dsimp only at hi ⊢; omega)), hRF.weak (fun i hi => by first | omega | (dsimp only at hi ⊢; omega)), RD, G⟩
   obtain ⟨xv, hxv⟩ := Blk.pickI (l := [-1, 100]) B67 (k := kY) (by show kY < 2; omega)
   refine E_val (i := 6) rfl (Y_load U3 rfl rfl hxv) GS51 ?_
   refine Dq (i := 7) rfl GS51 (fun _ _ => Y_build (cs := [_, _, _]) zr50 pc50 rfl rfl) ?_
   refine D_2 (i := 1) (j := 8) (by kernel_rfl) ?_ ?_
   ·
    refine E_val (i := 1) rfl (Y_load U23 rfl rfl (B4.at (by rfl))) GS51 ?_
    refine D_1 (i := 8) (by kernel_rfl) ?_
    refine E_bs1 (cs := [_, _, _]) (i := 8) rfl U23 zr50 sz50 rfl rfl rfl ?_
    intro b84 w84 fb84 g84 B84
    refine ⟨GS51.grow g84, ?_⟩
    have lb84 := B84.lt
    replace OX := OX.grow g84
    replace RD := RD.grow g84
    replace G := G.grow g84
    replace GS51 := GS51.grow g84
    replace B1 := B1.grow g84
    replace B4 := B4.grow g84
    replace B67 := B67.grow g84
    have zg84 := g84.size
    refine D_1 (i := 9) (by kernel_rfl) ?_
    refine E_app2 (i := 9) rfl U23 zr50 sz50 by50 rfl rfl OX.row rfl (Src.blk B84) (by simp [Value.oneCell']) (by omega) (Pr' := (fun i => w.heap.size ≤ i ∧ i ≠ b1 ∧ i ≠ b4)) (fun i hi => by first | omega | (dsimp only at hi ⊢; omega)) (by first | omega | (dsimp only; omega)) ?_
    intro A85 cap85 w85 X85 m85 n85
    have OY := OX.add hne (z := ⟨true, xv, []⟩) (OI.nil No _ _ none) (fun i hi => by first | exact hi.elim | omega | (dsimp only at hi ⊢; omega)) n85 X85 (fun i hi => by first | omega | (dsimp only at hi ⊢; omega)) (fun i hi => by first | exact hi.elim | omega | (dsimp only at hi ⊢; omega))
    replace G := Mod.trans' G m85 (fun _ h _ => h) (fun i h hl => by first | exact h | omega | (dsimp only at h ⊢; omega))
    replace GS51 := GS51.trn m85
    replace RD := RD.md m85
    replace B1 := B1.md m85
    replace B4 := B4.md m85
    replace B67 := B67.md m85
    have zm85 := m85.size
    have hCF := OY.rc
    have hRF := OY.r1
    refine ⟨GS51, ?_⟩
    refine Dq (i := 10) rfl GS51 (fun _ _ => Y_field U26 rfl fz26_0 (by decide) rfl) ?_
    refine D_1 (i := 11) (by kernel_rfl) ?_
    refine E_stM (pre := []) (old := [_]) (post := [_]) (vs := [_]) (i := 11) rfl sz23 rfl rfl rfl (by first | rfl | assumption) B4 rfl rfl ?_
    intro w86 m86 X86
    replace B4 := Blk.eq (ys := [_, _]) X86 rfl
    clear X86
    replace G := Mod.trans' G m86 (fun _ h _ => h) (fun i h hl => by first | exact h | omega | (dsimp only at h ⊢; omega))
    replace GS51 := GS51.trn m86
    replace RD := RD.md m86
    replace OY := OY.md m86
    replace hCF := hCF.md m86
    replace hRF := hRF.md m86
    replace B1 := B1.md m86
    replace B67 := B67.md m86
    have zm86 := m86.size
    refine ⟨GS51, ?_⟩
    refine D_en (by kernel_rfl) rfl rfl ?_
    refine ib_n ?_
    refine th_n (hK13 _ _ ?_)
    clear hK13 K13
    refine wp_seq_k fun K30 hK30 => ?_
    refine Sb 142 rfl ?_
    refine S_val (Y_loadS U26 rfl sz26 rfl (B4.row (by rfl))) ?_
    refine S_stM (pre := []) (old := [_, _]) (post := []) (vs := [_, _]) sz26 rfl rfl rfl (by first | rfl | assumption) B1 rfl rfl ?_
    intro w87 m87 X87
    replace B1 := Blk.eq (ys := [_, _]) X87 rfl
    clear X87
    replace G := Mod.trans' G m87 (fun _ h _ => h) (fun i h hl => by first | exact h | omega | (dsimp only at h ⊢; omega))
    replace RD := RD.md m87
    replace OY := OY.md m87
    replace hCF := hCF.md m87
    replace hRF := hRF.md m87
    replace B4 := B4.md m87
    replace B67 := B67.md m87
    have zm87 := m87.size
    refine S_nl rfl rfl ?_
    refine th_n (hK30 _ _ ?_)
    clear hK30 K30
    refine wp_ret ?_
    refine ret_rc (cs := [_, _]) U26 rfl sz26 rfl rfl (B1.row (by rfl)) ?_
    first | exact ⟨_, _, _, _, _, _, _, _, rfl, by simp, by simp, sL.size, by omega, hCF.weak (fun i hi => by first | omega | (dsimp only at hi ⊢; omega)), hRF.weak (fun i hi => by first | omega | (dsimp only at hi ⊢; omega)), RD, G⟩ | exact ⟨_, _, _, _, _, _, _, _, rfl, by simp, by simp, sL.root _ _, by omega, hCF.weak (fun i hi => by first | omega | (dsimp only at hi ⊢; omega)), hRF.weak (fun i hi => by first | omega | (dsimp only at hi ⊢; omega)), RD, G⟩ | exact ⟨_, _, _, _, _, _, _, _, rfl, by simp, by simp, sL.more (by simp), by omega, hCF.weak (fun i hi => by first | omega | (dsimp only at hi ⊢; omega)), hRF.weak (fun i hi => by first | omega | (dsimp only at hi ⊢; omega)), RD, G⟩ | exact ⟨_, _, _, _, _, _, _, _, rfl, by simp, by simp, sL.rest, by omega, hCF.weak (fun i hi => by first | omega | (dsimp only at hi ⊢; omega)), hRF.weak (fun i hi => by first | omega | (dsimp only at hi ⊢; omega)), RD, G⟩
   refine E_bs1 (cs := [_, _, _]) (i := 8) rfl U23 zr50 sz50 rfl rfl rfl ?_
   intro b88 w88 fb88 g88 B88
   refine ⟨GS51.grow g88, ?_⟩
   have lb88 := B88.lt
   replace OX := OX.grow g88
   replace RD := RD.grow g88
   replace G := G.grow g88
   replace GS51 := GS51.grow g88
   replace B1 := B1.grow g88
   replace B4 := B4.grow g88
   replace B67 := B67.grow g88
   have zg88 := g88.size
   refine D_1 (i := 1) (by kernel_rfl) ?_
   refine E_val (i := 1) rfl (Y_load U23 rfl rfl (B4.at (by rfl))) GS51 ?_
   refine D_1 (i := 9) (by kernel_rfl) ?_
   refine E_app2 (i := 9) rfl U23 zr50 sz50 by50 rfl rfl OX.row rfl (Src.blk B88) (by simp [Value.oneCell']) (by omega) (Pr' := (fun i => w.heap.size ≤ i ∧ i ≠ b1 ∧ i ≠ b4)) (fun i hi => by first | omega | (dsimp only at hi ⊢; omega)) (by first | omega | (dsimp only; omega)) ?_
   intro A90 cap90 w90 X90 m90 n90
   have OY := OX.add hne (z := ⟨true, xv, []⟩) (OI.nil No _ _ none) (fun i hi => by first | exact hi.elim | omega | (dsimp only at hi ⊢; omega)) n90 X90 (fun i hi => by first | omega | (dsimp only at hi ⊢; omega)) (fun i hi => by first | exact hi.elim | omega | (dsimp only at hi ⊢; omega))
   replace G := Mod.trans' G m90 (fun _ h _ => h) (fun i h hl => by first | exact h | omega | (dsimp only at h ⊢; omega))
   replace GS51 := GS51.trn m90
   replace RD := RD.md m90
   replace B1 := B1.md m90
   replace B4 := B4.md m90
   replace B67 := B67.md m90
   have zm90 := m90.size
   have hCF := OY.rc
   have hRF := OY.r1
   refine ⟨GS51, ?_⟩
   refine Dq (i := 10) rfl GS51 (fun _ _ => Y_field U26 rfl fz26_0 (by decide) rfl) ?_
   refine D_1 (i := 11) (by kernel_rfl) ?_
   refine E_stM (pre := []) (old := [_]) (post := [_]) (vs := [_]) (i := 11) rfl sz23 rfl rfl rfl (by first | rfl | assumption) B4 rfl rfl ?_
   intro w91 m91 X91
   replace B4 := Blk.eq (ys := [_, _]) X91 rfl
   clear X91
   replace G := Mod.trans' G m91 (fun _ h _ => h) (fun i h hl => by first | exact h | omega | (dsimp only at h ⊢; omega))
   replace GS51 := GS51.trn m91
   replace RD := RD.md m91
   replace OY := OY.md m91
   replace hCF := hCF.md m91
   replace hRF := hRF.md m91
   replace B1 := B1.md m91
   replace B67 := B67.md m91
   have zm91 := m91.size
   refine ⟨GS51, ?_⟩
   refine D_en (by kernel_rfl) rfl rfl ?_
   refine ib_n ?_
   refine th_n (hK13 _ _ ?_)
   clear hK13 K13
   refine wp_seq_k fun K31 hK31 => ?_
   refine Sb 142 rfl ?_
   refine S_val (Y_loadS U26 rfl sz26 rfl (B4.row (by rfl))) ?_
   refine S_stM (pre := []) (old := [_, _]) (post := []) (vs := [_, _]) sz26 rfl rfl rfl (by first | rfl | assumption) B1 rfl rfl ?_
   intro w92 m92 X92
   replace B1 := Blk.eq (ys := [_, _]) X92 rfl
   clear X92
   replace G := Mod.trans' G m92 (fun _ h _ => h) (fun i h hl => by first | exact h | omega | (dsimp only at h ⊢; omega))
   replace RD := RD.md m92
   replace OY := OY.md m92
   replace hCF := hCF.md m92
   replace hRF := hRF.md m92
   replace B4 := B4.md m92
   replace B67 := B67.md m92
   have zm92 := m92.size
   refine S_nl rfl rfl ?_
   refine th_n (hK31 _ _ ?_)
   clear hK31 K31
   refine wp_ret ?_
   refine ret_rc (cs := [_, _]) U26 rfl sz26 rfl rfl (B1.row (by rfl)) ?_
   first | exact ⟨_, _, _, _, _, _, _, _, rfl, by simp, by simp, sL.size, by omega, hCF.weak (fun i hi => by first | omega | (dsimp only at hi ⊢; omega)), hRF.weak (fun i hi => by first | omega | (dsimp only at hi ⊢; omega)), RD, G⟩ | exact ⟨_, _, _, _, _, _, _, _, rfl, by simp, by simp, sL.root _ _, by omega, hCF.weak (fun i hi => by first | omega | (dsimp only at hi ⊢; omega)), hRF.weak (fun i hi => by first | omega | (dsimp only at hi ⊢; omega)), RD, G⟩ | exact ⟨_, _, _, _, _, _, _, _, rfl, by simp, by simp, sL.more (by simp), by omega, hCF.weak (fun i hi => by first | omega | (dsimp only at hi ⊢; omega)), hRF.weak (fun i hi => by first | omega | (dsimp only at hi ⊢; omega)), RD, G⟩ | exact ⟨_, _, _, _, _, _, _, _, rfl, by simp, by simp, sL.rest, by omega, hCF.weak (fun i hi => by first | omega | (dsimp only at hi ⊢; omega)), hRF.weak (fun i hi => by first | omega | (dsimp only at hi ⊢; omega)), RD, G⟩
  refine E_call rfl rfl en50 (spec_l20Rd_pick_c _ _ _ _ RD (by omega) (by omega)) ?_
  rintro v93 w93 ⟨k93, rfl, hk93, RD93, m93⟩
  obtain ⟨kY, rfl⟩ : ∃ x, x = k93 := ⟨_, rfl⟩
  have hkY := hk93 (by decide)
  replace RD := RD93
  clear RD93
  replace G := Mod.trans' G m93 (fun _ h _ => h) (fun i h hl => by first | exact h | omega | (dsimp only at h ⊢; omega))
  replace GS51 := GS51.trn m93
  replace OX := OX.md m93
  replace B1 := B1.md m93
  replace B4 := B4.md m93
  have zm93 := m93.size
  refine ⟨GS51, ?_⟩
  refine D_2 (i := 1) (j := 2) (by kernel_rfl) ?_ ?_
  ·
   refine E_val (i := 1) rfl (Y_load U23 rfl rfl (B4.at (by rfl))) GS51 ?_
   refine D_1 (i := 2) (by kernel_rfl) ?_
   refine E_bsN (cs := [_, _]) (i := 2) rfl U24 zr3 sz3 rfl rfl ?_
   intro b95 w95 fb95 g95 B95
   refine ⟨GS51.grow g95, ?_⟩
   have lb95 := B95.lt
   replace OX := OX.grow g95
   replace RD := RD.grow g95
   replace G := G.grow g95
   replace GS51 := GS51.grow g95
   replace B1 := B1.grow g95
   replace B4 := B4.grow g95
   have zg95 := g95.size
   refine Dq (i := 5) rfl GS51 (fun _ _ => Y_index U24 sz3 rfl rfl (by first | assumption | omega)) ?_
   refine D_1 (i := 6) (by kernel_rfl) ?_
   obtain ⟨xv, hxv⟩ := Blk.pickI (l := [-1, 100]) B95 (k := kY) (by show kY < 2; omega)
   refine E_val (i := 6) rfl (Y_load U3 rfl rfl hxv) GS51 ?_
   refine Dq (i := 7) rfl GS51 (fun _ _ => Y_build (cs := [_, _, _]) zr50 pc50 rfl rfl) ?_
   refine D_1 (i := 8) (by kernel_rfl) ?_
   refine E_bs1 (cs := [_, _, _]) (i := 8) rfl U23 zr50 sz50 rfl rfl rfl ?_
   intro b97 w97 fb97 g97 B97
   refine ⟨GS51.grow g97, ?_⟩
   have lb97 := B97.lt
   replace OX := OX.grow g97
   replace RD := RD.grow g97
   replace G := G.grow g97
   replace GS51 := GS51.grow g97
   replace B1 := B1.grow g97
   replace B4 := B4.grow g97
   replace B95 := B95.grow g97
   have zg97 := g97.size
   refine D_1 (i := 9) (by kernel_rfl) ?_
   refine E_app2 (i := 9) rfl U23 zr50 sz50 by50 rfl rfl OX.row rfl (Src.blk B97) (by simp [Value.oneCell']) (by omega) (Pr' := (fun i => w.heap.size ≤ i ∧ i ≠ b1 ∧ i ≠ b4)) (fun i hi => by first | omega | (dsimp only at hi ⊢; omega)) (by first | omega | (dsimp only; omega)) ?_
   intro A98 cap98 w98 X98 m98 n98
   have OY := OX.add hne (z := ⟨true, xv, []⟩) (OI.nil No _ _ none) (fun i hi => by first | exact hi.elim | omega | (dsimp only at hi ⊢; omega)) n98 X98 (fun i hi => by first | omega | (dsimp only at hi ⊢; omega)) (fun i hi => by first | exact hi.elim | omega | (dsimp only at hi ⊢; omega))
   replace G := Mod.trans' G m98 (fun _ h _ => h) (fun i h hl => by first | exact h | omega | (dsimp only at h ⊢; omega))
   replace GS51 := GS51.trn m98
   replace RD := RD.md m98
   replace B1 := B1.md m98
   replace B4 := B4.md m98
   replace B95 := B95.md m98
   have zm98 := m98.size
   have hCF := OY.rc
   have hRF := OY.r1
   refine ⟨GS51, ?_⟩
   refine Dq (i := 10) rfl GS51 (fun _ _ => Y_field U26 rfl fz26_0 (by decide) rfl) ?_
   refine D_1 (i := 11) (by kernel_rfl) ?_
   refine E_stM (pre := []) (old := [_]) (post := [_]) (vs := [_]) (i := 11) rfl sz23 rfl rfl rfl (by first | rfl | assumption) B4 rfl rfl ?_
   intro w99 m99 X99
   replace B4 := Blk.eq (ys := [_, _]) X99 rfl
   clear X99
   replace G := Mod.trans' G m99 (fun _ h _ => h) (fun i h hl => by first | exact h | omega | (dsimp only at h ⊢; omega))
   replace GS51 := GS51.trn m99
   replace RD := RD.md m99
   replace OY := OY.md m99
   replace hCF := hCF.md m99
   replace hRF := hRF.md m99
   replace B1 := B1.md m99
   replace B95 := B95.md m99
   have zm99 := m99.size
   refine ⟨GS51, ?_⟩
   refine D_en (by kernel_rfl) rfl rfl ?_
   refine ib_n ?_
   refine th_n (hK13 _ _ ?_)
   clear hK13 K13
   refine wp_seq_k fun K32 hK32 => ?_
   refine Sb 142 rfl ?_
   refine S_val (Y_loadS U26 rfl sz26 rfl (B4.row (by rfl))) ?_
   refine S_stM (pre := []) (old := [_, _]) (post := []) (vs := [_, _]) sz26 rfl rfl rfl (by first | rfl | assumption) B1 rfl rfl ?_
   intro w100 m100 X100
   replace B1 := Blk.eq (ys := [_, _]) X100 rfl
   clear X100
   replace G := Mod.trans' G m100 (fun _ h _ => h) (fun i h hl => by first | exact h | omega | (dsimp only at h ⊢; omega))
   replace RD := RD.md m100
   replace OY := OY.md m100
   replace hCF := hCF.md m100
   replace hRF := hRF.md m100
   replace B4 := B4.md m100
   replace B95 := B95.md m100
   have zm100 := m100.size
   refine S_nl rfl rfl ?_
   refine th_n (hK32 _ _ ?_)
   clear hK32 K32
   refine wp_ret ?_
   refine ret_rc (cs := [_, _]) U26 rfl sz26 rfl rfl (B1.row (by rfl)) ?_
   first | exact ⟨_, _, _, _, _, _, _, _, rfl, by simp, by simp, sL.size, by omega, hCF.weak (fun i hi => by first | omega | (dsimp only at hi ⊢; omega)), hRF.weak (fun i hi => by first | omega | (dsimp only at hi ⊢; omega)), RD, G⟩ | exact ⟨_, _, _, _, _, _, _, _, rfl, by simp, by simp, sL.root _ _, by omega, hCF.weak (fun i hi => by first | omega | (dsimp only at hi ⊢; omega)), hRF.weak (fun i hi => by first | omega | (dsimp only at hi ⊢; omega)), RD, G⟩ | exact ⟨_, _, _, _, _, _, _, _, rfl, by simp, by simp, sL.more (by simp), by omega, hCF.weak (fun i hi => by first | omega | (dsimp only at hi ⊢; omega)), hRF.weak (fun i hi => by first | omega | (dsimp only at hi ⊢; omega)), RD, G⟩ | exact ⟨_, _, _, _, _, _, _, _, rfl, by simp, by simp, sL.rest, by omega, hCF.weak (fun i hi => by first | omega | (dsimp only at hi ⊢; omega)), hRF.weak (fun i hi => by first | omega | (dsimp only at hi ⊢; omega)), RD, G⟩
  refine E_bsN (cs := [_, _]) (i := 2) rfl U24 zr3 sz3 rfl rfl ?_
  intro b101 w101 fb101 g101 B101
  refine ⟨GS51.grow g101, ?_⟩
  have lb101 := B101.lt
  replace OX := OX.grow g101
  replace RD := RD.grow g101
  replace G := G.grow g101
  replace GS51 := GS51.grow g101
  replace B1 := B1.grow g101
  replace B4 := B4.grow g101
  have zg101 := g101.size
  refine Dq (i := 5) rfl GS51 (fun _ _ => Y_index U24 sz3 rfl rfl (by first | assumption | omega)) ?_
  refine D_2 (i := 1) (j := 6) (by kernel_rfl) ?_ ?_
  ·
   refine E_val (i := 1) rfl (Y_load U23 rfl rfl (B4.at (by rfl))) GS51 ?_
   refine D_1 (i := 6) (by kernel_rfl) ?_
   obtain ⟨xv, hxv⟩ := Blk.pickI (l := [-1, 100]) B101 (k := kY) (by show kY < 2; omega)
   refine E_val (i := 6) rfl (Y_load U3 rfl rfl hxv) GS51 ?_
   refine Dq (i := 7) rfl GS51 (fun _ _ => Y_build (cs := [_, _, _]) zr50 pc50 rfl rfl) ?_
   refine D_1 (i := 8) (by kernel_rfl) ?_
   refine E_bs1 (cs := [_, _, _]) (i := 8) rfl U23 zr50 sz50 rfl rfl rfl ?_
   intro b104 w104 fb104 g104 B104
   refine ⟨GS51.grow g104, ?_⟩
   have lb104 := B104.lt
   replace OX := OX.grow g104
   replace RD := RD.grow g104
   replace G := G.grow g104
   replace GS51 := GS51.grow g104
   replace B1 := B1.grow g104
   replace B4 := B4.grow g104
   replace B101 := B101.grow g104
   have zg104 := g104.size
   refine D_1 (i := 9) (by kernel_rfl) ?_
   refine E_app2 (i := 9) rfl U23 zr50 sz50 by50 rfl rfl OX.row rfl (Src.blk B104) (by simp [Value.oneCell']) (by omega) (Pr' := (fun i => w.heap.size ≤ i ∧ i ≠ b1 ∧ i ≠ b4)) (fun i hi => by first | omega | (dsimp only at hi ⊢; omega)) (by first | omega | (dsimp only; omega)) ?_
   intro A105 cap105 w105 X105 m105 n105
   have OY := OX.add hne (z := ⟨true, xv, []⟩) (OI.nil No _ _ none) (fun i hi => by first | exact hi.elim | omega | (dsimp only at hi ⊢; omega)) n105 X105 (fun i hi => by first | omega | (dsimp only at hi ⊢; omega)) (fun i hi => by first | exact hi.elim | omega | (dsimp only at hi ⊢; omega))
   replace G := Mod.trans' G m105 (fun _ h _ => h) (fun i h hl => by first | exact h | omega | (dsimp only at h ⊢; omega))
   replace GS51 := GS51.trn m105
   replace RD := RD.md m105
   replace B1 := B1.md m105
   replace B4 := B4.md m105
   replace B101 := B101.md m105
   have zm105 := m105.size
   have hCF := OY.rc
   have hRF := OY.r1
   refine ⟨GS51, ?_⟩
   refine Dq (i := 10) rfl GS51 (fun _ _ => Y_field U26 rfl fz26_0 (by decide) rfl) ?_
   refine D_1 (i := 11) (by kernel_rfl) ?_
   refine E_stM (pre := []) (old := [_]) (post := [_]) (vs := [_]) (i := 11) rfl sz23 rfl rfl rfl (by first | rfl | assumption) B4 rfl rfl ?_
   intro w106 m106 X106
   replace B4 := Blk.eq (ys := [_, _]) X106 rfl
   clear X106
   replace G := Mod.trans' G m106 (fun _ h _ => h) (fun i h hl => by first | exact h | omega | (dsimp only at h ⊢; omega))
   replace GS51 := GS51.trn m106
   replace RD := RD.md m106
   replace OY := OY.md m106
   replace hCF := hCF.md m106
   replace hRF := hRF.md m106
   replace B1 := B1.md m106
   replace B101 := B101.md m106
   have zm106 := m106.size
   refine ⟨GS51, ?_⟩
   refine D_en (by kernel_rfl) rfl rfl ?_
   refine ib_n ?_
   refine th_n (hK13 _ _ ?_)
   clear hK13 K13
   refine wp_seq_k fun K33 hK33 => ?_
   refine Sb 142 rfl ?_
   refine S_val (Y_loadS U26 rfl sz26 rfl (B4.row (by rfl))) ?_
   refine S_stM (pre := []) (old := [_, _]) (post := []) (vs := [_, _]) sz26 rfl rfl rfl (by first | rfl | assumption) B1 rfl rfl ?_
   intro w107 m107 X107
   replace B1 := Blk.eq (ys := [_, _]) X107 rfl
   clear X107
   replace G := Mod.trans' G m107 (fun _ h _ => h) (fun i h hl => by first | exact h | omega | (dsimp only at h ⊢; omega))
   replace RD := RD.md m107
   replace OY := OY.md m107
   replace hCF := hCF.md m107
   replace hRF := hRF.md m107
   replace B4 := B4.md m107
   replace B101 := B101.md m107
   have zm107 := m107.size
   refine S_nl rfl rfl ?_
   refine th_n (hK33 _ _ ?_)
   clear hK33 K33
   refine wp_ret ?_
   refine ret_rc (cs := [_, _]) U26 rfl sz26 rfl rfl (B1.row (by rfl)) ?_
   first | exact ⟨_, _, _, _, _, _, _, _, rfl, by simp, by simp, sL.size, by omega, hCF.weak (fun i hi => by first | omega | (dsimp only at hi ⊢; omega)), hRF.weak (fun i hi => by first | omega | (dsimp only at hi ⊢; omega)), RD, G⟩ | exact ⟨_, _, _, _, _, _, _, _, rfl, by simp, by simp, sL.root _ _, by omega, hCF.weak (fun i hi => by first | omega | (dsimp only at hi ⊢; omega)), hRF.weak (fun i hi => by first | omega | (dsimp only at hi ⊢; omega)), RD, G⟩ | exact ⟨_, _, _, _, _, _, _, _, rfl, by simp, by simp, sL.more (by simp), by omega, hCF.weak (fun i hi => by first | omega | (dsimp only at hi ⊢; omega)), hRF.weak (fun i hi => by first | omega | (dsimp only at hi ⊢; omega)), RD, G⟩ | exact ⟨_, _, _, _, _, _, _, _, rfl, by simp, by simp, sL.rest, by omega, hCF.weak (fun i hi => by first | omega | (dsimp only at hi ⊢; omega)), hRF.weak (fun i hi => by first | omega | (dsimp only at hi ⊢; omega)), RD, G⟩
  obtain ⟨xv, hxv⟩ := Blk.pickI (l := [-1, 100]) B101 (k := kY) (by show kY < 2; omega)
  refine E_val (i := 6) rfl (Y_load U3 rfl rfl hxv) GS51 ?_
  refine Dq (i := 7) rfl GS51 (fun _ _ => Y_build (cs := [_, _, _]) zr50 pc50 rfl rfl) ?_
  refine D_2 (i := 1) (j := 8) (by kernel_rfl) ?_ ?_
  ·
   refine E_val (i := 1) rfl (Y_load U23 rfl rfl (B4.at (by rfl))) GS51 ?_
   refine D_1 (i := 8) (by kernel_rfl) ?_
   refine E_bs1 (cs := [_, _, _]) (i := 8) rfl U23 zr50 sz50 rfl rfl rfl ?_
   intro b110 w110 fb110 g110 B110
   refine ⟨GS51.grow g110, ?_⟩
   have lb110 := B110.lt
   replace OX := OX.grow g110
   replace RD := RD.grow g110
   replace G := G.grow g110
   replace GS51 := GS51.grow g110
   replace B1 := B1.grow g110
   replace B4 := B4.grow g110
   replace B101 := B101.grow g110
   have zg110 := g110.size
   refine D_1 (i := 9) (by kernel_rfl) ?_
   refine E_app2 (i := 9) rfl U23 zr50 sz50 by50 rfl rfl OX.row rfl (Src.blk B110) (by simp [Value.oneCell']) (by omega) (Pr' := (fun i => w.heap.size ≤ i ∧ i ≠ b1 ∧ i ≠ b4)) (fun i hi => by first | omega | (dsimp only at hi ⊢; omega)) (by first | omega | (dsimp only; omega)) ?_
   intro A111 cap111 w111 X111 m111 n111
   have OY := OX.add hne (z := ⟨true, xv, []⟩) (OI.nil No _ _ none) (fun i hi => by first | exact hi.elim | omega | (dsimp only at hi ⊢; omega)) n111 X111 (fun i hi => by first | omega | (dsimp only at hi ⊢; omega)) (fun i hi => by first | exact hi.elim | omega | (dsimp only at hi ⊢; omega))
   replace G := Mod.trans' G m111 (fun _ h _ => h) (fun i h hl => by first | exact h | omega | (dsimp only at h ⊢; omega))
   replace GS51 := GS51.trn m111
   replace RD := RD.md m111
   replace B1 := B1.md m111
   replace B4 := B4.md m111
   replace B101 := B101.md m111
   have zm111 := m111.size
   have hCF := OY.rc
   have hRF := OY.r1
   refine ⟨GS51, ?_⟩
   refine Dq (i := 10) rfl GS51 (fun _ _ => Y_field U26 rfl fz26_0 (by decide) rfl) ?_
   refine D_1 (i := 11) (by kernel_rfl) ?_
   refine E_stM (pre := []) (old := [_]) (post := [_]) (vs := [_]) (i := 11) rfl sz23 rfl rfl rfl (by first | rfl | assumption) B4 rfl rfl ?_
   intro w112 m112 X112
   replace B4 := Blk.eq (ys := [_, _]) X112 rfl
   clear X112
   replace G := Mod.trans' G m112 (fun _ h _ => h) (fun i h hl => by first | exact h | omega | (dsimp only at h ⊢; omega))
   replace GS51 := GS51.trn m112
   replace RD := RD.md m112
   replace OY := OY.md m112
   replace hCF := hCF.md m112
   replace hRF := hRF.md m112
   replace B1 := B1.md m112
   replace B101 := B101.md m112
   have zm112 := m112.size
   refine ⟨GS51, ?_⟩
   refine D_en (by kernel_rfl) rfl rfl ?_
   refine ib_n ?_
   refine th_n (hK13 _ _ ?_)
   clear hK13 K13
   refine wp_seq_k fun K34 hK34 => ?_
   refine Sb 142 rfl ?_
   refine S_val (Y_loadS U26 rfl sz26 rfl (B4.row (by rfl))) ?_
   refine S_stM (pre := []) (old := [_, _]) (post := []) (vs := [_, _]) sz26 rfl rfl rfl (by first | rfl | assumption) B1 rfl rfl ?_
   intro w113 m113 X113
   replace B1 := Blk.eq (ys := [_, _]) X113 rfl
   clear X113
   replace G := Mod.trans' G m113 (fun _ h _ => h) (fun i h hl => by first | exact h | omega | (dsimp only at h ⊢; omega))
   replace RD := RD.md m113
   replace OY := OY.md m113
   replace hCF := hCF.md m113
   replace hRF := hRF.md m113
   replace B4 := B4.md m113
   replace B101 := B101.md m113
   have zm113 := m113.size
   refine S_nl rfl rfl ?_
   refine th_n (hK34 _ _ ?_)
   clear hK34 K34
   refine wp_ret ?_
   refine ret_rc (cs := [_, _]) U26 rfl sz26 rfl rfl (B1.row (by rfl)) ?_
   first | exact ⟨_, _, _, _, _, _, _, _, rfl, by simp, by simp, sL.size, by omega, hCF.weak (fun i hi => by first | omega | (dsimp only at hi ⊢; omega)), hRF.weak (fun i hi => by first | omega | (dsimp only at hi ⊢; omega)), RD, G⟩ | exact ⟨_, _, _, _, _, _, _, _, rfl, by simp, by simp, sL.root _ _, by omega, hCF.weak (fun i hi => by first | omega | (dsimp only at hi ⊢; omega)), hRF.weak (fun i hi => by first | omega | (dsimp only at hi ⊢; omega)), RD, G⟩ | exact ⟨_, _, _, _, _, _, _, _, rfl, by simp, by simp, sL.more (by simp), by omega, hCF.weak (fun i hi => by first | omega | (dsimp only at hi ⊢; omega)), hRF.weak (fun i hi => by first | omega | (dsimp only at hi ⊢; omega)), RD, G⟩ | exact ⟨_, _, _, _, _, _, _, _, rfl, by simp, by simp, sL.rest, by omega, hCF.weak (fun i hi => by first | omega | (dsimp only at hi ⊢; omega)), hRF.weak (fun i hi => by first | omega | (dsimp only at hi ⊢; omega)), RD, G⟩
  refine E_bs1 (cs := [_, _, _]) (i := 8) rfl U23 zr50 sz50 rfl rfl rfl ?_
  intro b114 w114 fb114 g114 B114
  refine ⟨GS51.grow g114, ?_⟩
  have lb114 := B114.lt
  replace OX := OX.grow g114
  replace RD := RD.grow g114
  replace G := G.grow g114
  replace GS51 := GS51.grow g114
  replace B1 := B1.grow g114
  replace B4 := B4.grow g114
  replace B101 := B101.grow g114
  have zg114 := g114.size
  refine D_1 (i := 1) (by kernel_rfl) ?_
  refine E_val (i := 1) rfl (Y_load U23 rfl rfl (B4.at (by rfl))) GS51 ?_
  refine D_1 (i := 9) (by kernel_rfl) ?_
  refine E_app2 (i := 9) rfl U23 zr50 sz50 by50 rfl rfl OX.row rfl (Src.blk B114) (by simp [Value.oneCell']) (by omega) (Pr' := (fun i => w.heap.size ≤ i ∧ i ≠ b1 ∧ i ≠ b4)) (fun i hi => by first | omega | (dsimp only at hi ⊢; omega)) (by first | omega | (dsimp only; omega)) ?_
  intro A116 cap116 w116 X116 m116 n116
  have OY := OX.add hne (z := ⟨true, xv, []⟩) (OI.nil No _ _ none) (fun i hi => by first | exact hi.elim | omega | (dsimp only at hi ⊢; omega)) n116 X116 (fun i hi => by first | omega | (dsimp only at hi ⊢; omega)) (fun i hi => by first | exact hi.elim | omega | (dsimp only at hi ⊢; omega))
  replace G := Mod.trans' G m116 (fun _ h _ => h) (fun i h hl => by first | exact h | omega | (dsimp only at h ⊢; omega))
  replace GS51 := GS51.trn m116
  replace RD := RD.md m116
  replace B1 := B1.md m116
  replace B4 := B4.md m116
  replace B101 := B101.md m116
  have zm116 := m116.size
  have hCF := OY.rc
  have hRF := OY.r1
  refine ⟨GS51, ?_⟩
  refine Dq (i := 10) rfl GS51 (fun _ _ => Y_field U26 rfl fz26_0 (by decide) rfl) ?_
  refine D_1 (i := 11) (by kernel_rfl) ?_
  refine E_stM (pre := []) (old := [_]) (post := [_]) (vs := [_]) (i := 11) rfl sz23 rfl rfl rfl (by first | rfl | assumption) B4 rfl rfl ?_
  intro w117 m117 X117
  replace B4 := Blk.eq (ys := [_, _]) X117 rfl
  clear X117
  replace G := Mod.trans' G m117 (fun _ h _ => h) (fun i h hl => by first | exact h | omega | (dsimp only at h ⊢; omega))
  replace GS51 := GS51.trn m117
  replace RD := RD.md m117
  replace OY := OY.md m117
  replace hCF := hCF.md m117
  replace hRF := hRF.md m117
  replace B1 := B1.md m117
  replace B101 := B101.md m117
  have zm117 := m117.size
  refine ⟨GS51, ?_⟩
  refine D_en (by kernel_rfl) rfl rfl ?_
  refine ib_n ?_
  refine th_n (hK13 _ _ ?_)
  clear hK13 K13
  refine wp_seq_k fun K35 hK35 => ?_
  refine Sb 142 rfl ?_
  refine S_val (Y_loadS U26 rfl sz26 rfl (B4.row (by rfl))) ?_
  refine S_stM (pre := []) (old := [_, _]) (post := []) (vs := [_, _]) sz26 rfl rfl rfl (by first | rfl | assumption) B1 rfl rfl ?_
  intro w118 m118 X118
  replace B1 := Blk.eq (ys := [_, _]) X118 rfl
  clear X118
  replace G := Mod.trans' G m118 (fun _ h _ => h) (fun i h hl => by first | exact h | omega | (dsimp only at h ⊢; omega))
  replace RD := RD.md m118
  replace OY := OY.md m118
  replace hCF := hCF.md m118
  replace hRF := hRF.md m118
  replace B4 := B4.md m118
  replace B101 := B101.md m118
  have zm118 := m118.size
  refine S_nl rfl rfl ?_
  refine th_n (hK35 _ _ ?_)
  clear hK35 K35
  refine wp_ret ?_
  refine ret_rc (cs := [_, _]) U26 rfl sz26 rfl rfl (B1.row (by rfl)) ?_
  first | exact ⟨_, _, _, _, _, _, _, _, rfl, by simp, by simp, sL.size, by omega, hCF.weak (fun i hi => by first | omega | (dsimp only at hi ⊢; omega)), hRF.weak (fun i hi => by first | omega | (dsimp only at hi ⊢; omega)), RD, G⟩ | exact ⟨_, _, _, _, _, _, _, _, rfl, by simp, by simp, sL.root _ _, by omega, hCF.weak (fun i hi => by first | omega | (dsimp only at hi ⊢; omega)), hRF.weak (fun i hi => by first | omega | (dsimp only at hi ⊢; omega)), RD, G⟩ | exact ⟨_, _, _, _, _, _, _, _, rfl, by simp, by simp, sL.more (by simp), by omega, hCF.weak (fun i hi => by first | omega | (dsimp only at hi ⊢; omega)), hRF.weak (fun i hi => by first | omega | (dsimp only at hi ⊢; omega)), RD, G⟩ | exact ⟨_, _, _, _, _, _, _, _, rfl, by simp, by simp, sL.rest, by omega, hCF.weak (fun i hi => by first | omega | (dsimp only at hi ⊢; omega)), hRF.weak (fun i hi => by first | omega | (dsimp only at hi ⊢; omega)), RD, G⟩
 first | with_reducible (replace hb1 := nb_nf hb1) | with_reducible (replace hb1 := nb_tf hb1) | with_reducible (replace hb1 := nb_bf hb1) | skip
 have h41 := sL.le
 have hCF := OX.rc
 have hRF := OX.r1
 refine wp_skip ?_
 refine th_n (hK13 _ _ ?_)
 clear hK13 K13
 refine wp_seq_k fun K36 hK36 => ?_
 refine Sb 142 rfl ?_
 refine S_val (Y_loadS U26 rfl sz26 rfl (B4.row (by rfl))) ?_
 refine S_stM (pre := []) (old := [_, _]) (post := []) (vs := [_, _]) sz26 rfl rfl rfl (by first | rfl | assumption) B1 rfl rfl ?_
 intro w119 m119 X119
 replace B1 := Blk.eq (ys := [_, _]) X119 rfl
 clear X119
 replace G := Mod.trans' G m119 (fun _ h _ => h) (fun i h hl => by first | exact h | omega | (dsimp only at h ⊢; omega))
 replace OX := OX.md m119
 replace RD := RD.md m119
 replace hCF := hCF.md m119
 replace hRF := hRF.md m119
 replace B4 := B4.md m119
 have zm119 := m119.size
 refine S_nl rfl rfl ?_
 refine th_n (hK36 _ _ ?_)
 clear hK36 K36
 refine wp_ret ?_
 refine ret_rc (cs := [_, _]) U26 rfl sz26 rfl rfl (B1.row (by rfl)) ?_
 first | exact ⟨_, _, _, _, _, _, _, _, rfl, by simp, by simp, sL.size, by omega, hCF.weak (fun i hi => by first | omega | (dsimp only at hi ⊢; omega)), hRF.weak (fun i hi => by first | omega | (dsimp only at hi ⊢; omega)), RD, G⟩ | exact ⟨_, _, _, _, _, _, _, _, rfl, by simp, by simp, sL.root _ _, by omega, hCF.weak (fun i hi => by first | omega | (dsimp only at hi ⊢; omega)), hRF.weak (fun i hi => by first | omega | (dsimp only at hi ⊢; omega)), RD, G⟩ | exact ⟨_, _, _, _, _, _, _, _, rfl, by simp, by simp, sL.more (by simp), by omega, hCF.weak (fun i hi => by first | omega | (dsimp only at hi ⊢; omega)), hRF.weak (fun i hi => by first | omega | (dsimp only at hi ⊢; omega)), RD, G⟩ | exact ⟨_, _, _, _, _, _, _, _, rfl, by simp, by simp, sL.rest, by omega, hCF.weak (fun i hi => by first | omega | (dsimp only at hi ⊢; omega)), hRF.weak (fun i hi => by first | omega | (dsimp only at hi ⊢; omega)), RD, G⟩
end
/-! WalkX -/
section
open Go Go.RowKit
attribute [local irreducible] wpList wpAnyH Code.wp dOp
set_option maxHeartbeats 400000 in
set_option maxRecDepth 20000 in
theorem impl_isTotal_c (n : Int) (w : World) :
    Calls Try.prog 77 #[.int .i64 n] w (Ret fun v w' => v = .bool (decide (1 ≤ n ∧ n ≤ 256)) ∧ Grow w w') := by
 refine enter Try.func77 rfl Try.ntmps77 (L := [_,_,_,_,_,_,_,_,_]) rfl ?_
 have G := Mod.refl No w
 refine wp_seq_k fun K1 hK1 => ?_
 refine Sb 9 rfl ?_
 refine Sas rfl ?_
 refine S_nl rfl rfl ?_
 refine th_n (hK1 _ _ ?_)
 clear hK1 K1
 refine wp_seq_k fun K2 hK2 => ?_
 refine Sb 9 rfl ?_
 refine Smv rfl ?_
 refine S_val (Y_geq rfl rfl) ?_
 refine Smv rfl ?_
 refine S_g 5 rfl (fun hb1 => ?_) (fun hb1 => ?_)
 ·
  replace hb1 := nb_tt hb1
  refine S_on rfl rfl ?_
  refine Smv rfl ?_
  refine S_on rfl rfl ?_
  refine S_val (Y_leq rfl rfl) ?_
  refine S_val (Y_pickT rfl rfl) ?_
  refine Sas rfl ?_
  refine S_nl rfl rfl ?_
  refine th_n (hK2 _ _ ?_)
  clear hK2 K2
  refine wp_ret ?_
  refine ret_r1 rfl rfl ?_
  exact ⟨by first | exact bF (by omega) | exact bI (by omega), G⟩
 replace hb1 := nb_tf hb1
 refine S_off rfl rfl ?_
 refine S_off rfl rfl ?_
 refine S_val (Y_pickF rfl rfl) ?_
 refine Sas rfl ?_
 refine S_nl rfl rfl ?_
 refine th_n (hK2 _ _ ?_)
 clear hK2 K2
 refine wp_ret ?_
 refine ret_r1 rfl rfl ?_
 exact ⟨by first | exact bF (by omega) | exact bI (by omega), G⟩
set_option maxHeartbeats 400000 in
set_option maxRecDepth 20000 in
theorem impl_BlocksValid_c (b : Nat) (w : World) (B : Blk w b 62 [.int .i64 0, .int .i64 3, .bool false].toArray) :
    Calls Try.prog 59 #[.slice (some ⟨b, 0, none⟩) 1 1, .int .i64 3] w (Ret fun v w' => v = .bool true ∧ Grow w w') := by
 refine enter Try.func59 rfl Try.ntmps59 (L := [_,_,_,_,_,_,_,_,_,_,_,_,_,_,_,_,_,_,_,_,_,_,_,_,_,_,_,_,_,_,_,_,_,_,_,_,_,_,_,_,_,_,_,_,_,_,_,_,_,_,_,_,_,_,_,_,_,_,_,_,_]) rfl ?_
 have G := Mod.refl No w
 have B0 := B
 refine wp_seq_k fun K1 hK1 => ?_
 refine Sb 61 rfl ?_
 refine Sas rfl ?_
 refine S_nl rfl rfl ?_
 refine th_n (hK1 _ _ ?_)
 clear hK1 K1
 refine wp_seq_k fun K2 hK2 => ?_
 refine wp_seq_k fun K3 hK3 => ?_
 refine Sb 61 rfl ?_
 refine Smv rfl ?_
 refine S_call rfl en77 (impl_isTotal_c _ _) ?_
 rintro v1 w1 ⟨rfl, g1⟩
 replace B := B.grow g1
 replace G := G.grow g1
 have zg1 := g1.size
 refine S_val (Y_not rfl) ?_
 refine S_nl rfl rfl ?_
 refine th_n (hK3 _ _ ?_)
 clear hK3 K3
 refine S_if rfl (fun hb1 => ?_) (fun hb1 => ?_)
 ·
  first | with_reducible (replace hb1 := nb_nt hb1) | with_reducible (replace hb1 := nb_tt hb1) | with_reducible (replace hb1 := nb_bt hb1) | skip
  exact absurd hb1 (by decide)
 first | with_reducible (replace hb1 := nb_nf hb1) | with_reducible (replace hb1 := nb_tf hb1) | with_reducible (replace hb1 := nb_bf hb1) | skip
 refine wp_skip ?_
 refine th_n (hK2 _ _ ?_)
 clear hK2 K2
 refine wp_seq_k fun K4 hK4 => ?_
 refine Sb 61 rfl ?_
 refine Sas rfl ?_
 refine S_nl rfl rfl ?_
 refine th_n (hK4 _ _ ?_)
 clear hK4 K4
 refine wp_seq_k fun K5 hK5 => ?_
 refine wp_seq_k fun K6 hK6 => ?_
 refine Sb 61 rfl ?_
 refine Smv rfl ?_
 refine S_val (Y_len U63 rfl) ?_
 refine Smv rfl ?_
 refine S_nl rfl rfl ?_
 refine th_n (hK6 _ _ ?_)
 clear hK6 K6
 refine wp_block ?_
 go_loopw [5, 13] (fun u5 u13 wr => (∃ k e : Nat, u13 = .int .i64 k ∧ u5 = .int .i64 e ∧ ((k = 0 ∧ e = 0) ∨ (k = 1 ∧ e = 3))) ∧ Mod No w1 wr) (fun u5 u13 wr => 1 - (intOf u13).toNat)
 case atStart =>
  refine ⟨?_, Mod.refl _ _⟩
  exact ⟨0, 0, rfl, rfl, by omega⟩
 case round =>
  obtain ⟨w2, rfl⟩ : ∃ x : World, x = wr := ⟨_, rfl⟩
  obtain ⟨hrel, g2⟩ := hrel
  replace B := B.grow g2
  replace G := G.grow g2
  have zg2 := g2.size
  obtain ⟨k, e, rfl, rfl, hke0⟩ := hrel
  have GL2 := g2
  refine wp_seq_k fun K7 hK7 => ?_
  refine Sb 61 rfl ?_
  refine S_val (Y_lss rfl rfl) ?_
  refine S_nl rfl rfl ?_
  refine th_n (hK7 _ _ ?_)
  clear hK7 K7
  refine wp_seq_k fun K8 hK8 => ?_
  refine S_if rfl (fun hb2 => ?_) (fun hb2 => ?_)
  ·
   replace hb2 := nb_tt hb2
   have hke : k = 0 ∧ e = 0 := by omega
   obtain ⟨rfl, rfl⟩ := hke
   have cc9 : CellsAt w2 b (0 + 0 * 3) [.int .i64 0, .int .i64 3, .bool false] := B.row rfl
   refine wp_skip ?_
   refine th_n (hK8 _ _ ?_)
   clear hK8 K8
   refine wp_seq_k fun K9 hK9 => ?_
   refine wp_block ?_
   refine wp_seq_k fun K10 hK10 => ?_
   refine Sb 61 rfl ?_
   refine Smv rfl ?_
   refine S_val (Y_index U63 sz62 rfl rfl (by first | assumption | omega)) ?_
   refine S_val (Y_loadS U62 rfl sz62 rfl (by first | assumption | skip)) ?_
   refine S_alloc (cs := [_, _, _]) zr62 rfl ?_
   intro b3 w3 fb3 g3 B3
   have lb3 := B3.lt
   replace B := B.grow g3
   replace G := G.grow g3
   replace GL2 := GL2.grow g3
   replace cc9 := cc9.grow g3
   have zg3 := g3.size
   refine Sas rfl ?_
   refine S_stM (pre := []) (old := [_, _, _]) (post := []) (vs := [_, _, _]) sz62 rfl rfl rfl (by first | rfl | assumption) B3 rfl rfl ?_
   intro w4 m4 X4
   replace B3 := Blk.eq (ys := [_, _, _]) X4 rfl
   clear X4
   replace G := G.abv m4
   first | replace GL2 := GL2.abv m4 | try clear GL2
   replace B := B0.grow G
   clear cc9
   have zm4 := m4.size
   refine S_nl rfl rfl ?_
   refine th_n (hK10 _ _ ?_)
   clear hK10 K10
   refine wp_seq_k fun K11 hK11 => ?_
   refine wp_seq_k fun K12 hK12 => ?_
   refine Sb 61 rfl ?_
   refine S_val (Y_field U62 rfl fz62_0 (by decide) rfl) ?_
   refine S_val (Y_load U3 rfl rfl (B3.at (by rfl))) ?_
   refine Smv rfl ?_
   refine S_val (Y_neq rfl rfl) ?_
   refine Smv rfl ?_
   refine S_g 22 rfl (fun hb3 => ?_) (fun hb3 => ?_)
   ·
    replace hb3 := nb_nt hb3
    exact absurd rfl hb3
   replace hb3 := nb_nf hb3
   refine S_on rfl rfl ?_
   refine S_val (Y_field U62 rfl fz62_1 (by decide) rfl) ?_
   refine S_on rfl rfl ?_
   refine S_val (Y_load U3 rfl rfl (B3.at (by rfl))) ?_
   refine S_on rfl rfl ?_
   refine S_val (Y_lss rfl rfl) ?_
   refine S_val (Y_pickF rfl rfl) ?_
   refine Smv rfl ?_
   refine S_g 27 rfl (fun hb4 => ?_) (fun hb4 => ?_)
   ·
    first | with_reducible (replace hb4 := nb_nt hb4) | with_reducible (replace hb4 := nb_tt hb4) | with_reducible (replace hb4 := nb_bt hb4) | skip
    exact absurd hb4 (by decide)
   first | with_reducible (replace hb4 := nb_nf hb4) | with_reducible (replace hb4 := nb_tf hb4) | with_reducible (replace hb4 := nb_bf hb4) | skip
   refine S_on rfl rfl ?_
   refine S_val (Y_field U62 rfl fz62_1 (by decide) rfl) ?_
   refine S_on rfl rfl ?_
   refine S_val (Y_load U3 rfl rfl (B3.at (by rfl))) ?_
   refine S_on rfl rfl ?_
   refine Smv rfl ?_
   refine S_on rfl rfl ?_
   refine Smv rfl ?_
   refine S_on rfl rfl ?_
   refine S_val (Y_sub rfl rfl rfl (by omega) (by omega)) ?_
   refine S_on rfl rfl ?_
   refine S_val (Y_gtr rfl rfl) ?_
   refine S_val (Y_pickF rfl rfl) ?_
   refine Smv rfl ?_
   refine S_g 35 rfl (fun hb5 => ?_) (fun hb5 => ?_)
   ·
    first | with_reducible (replace hb5 := nb_nt hb5) | with_reducible (replace hb5 := nb_tt hb5) | with_reducible (replace hb5 := nb_bt hb5) | skip
    exact absurd hb5 (by decide)
   first | with_reducible (replace hb5 := nb_nf hb5) | with_reducible (replace hb5 := nb_tf hb5) | with_reducible (replace hb5 := nb_bf hb5) | skip
   refine S_on rfl rfl ?_
   refine Smv rfl ?_
   refine S_on rfl rfl ?_
   refine S_val (Y_gtr rfl rfl) ?_
   refine S_on rfl rfl ?_
   refine Smv rfl ?_
   refine S_g 38 rfl (fun hb6 => ?_) (fun hb6 => ?_)
   ·
    replace hb6 := nb_tt hb6
    exact absurd hb6 (by decide)
   replace hb6 := nb_tf hb6
   refine S_off rfl rfl ?_
   refine S_off rfl rfl ?_
   refine S_off rfl rfl ?_
   refine S_on rfl rfl ?_
   refine S_val (Y_pickF rfl rfl) ?_
   refine S_on rfl rfl ?_
   refine Smv rfl ?_
   refine S_off rfl rfl ?_
   refine S_off rfl rfl ?_
   refine S_off rfl rfl ?_
   refine S_off rfl rfl ?_
   refine S_off rfl rfl ?_
   refine S_off rfl rfl ?_
   refine S_off rfl rfl ?_
   refine S_on rfl rfl ?_
   refine S_val (Y_pickF rfl rfl) ?_
   refine S_val (Y_pickF rfl rfl) ?_
   refine S_nl rfl rfl ?_
   refine th_n (hK12 _ _ ?_)
   clear hK12 K12
   refine S_ifF rfl ?_
   refine wp_skip ?_
   refine th_n (hK11 _ _ ?_)
   clear hK11 K11
   refine Sb 61 rfl ?_
   refine Smv rfl ?_
   refine S_val (Y_field U62 rfl fz62_1 (by decide) rfl) ?_
   refine S_val (Y_load U3 rfl rfl (B3.at (by rfl))) ?_
   refine S_val (Y_add rfl rfl rfl (by omega) (by omega)) ?_
   refine Sas rfl ?_
   refine S_nl rfl rfl ?_
   refine ib_n ?_
   refine th_n (hK9 _ _ ?_)
   clear hK9 K9
   refine Sb 61 rfl ?_
   refine S_val (Y_inc rfl rfl (by omega)) ?_
   refine Smv rfl ?_
   refine S_nl rfl rfl ?_
   refine th_n ?_
   go_roundw
   case rel =>
    refine ⟨?_, GL2⟩
    exact ⟨1, 3, rfl, rfl, by omega⟩
   case measure =>
    exact dec_nat (by omega)
  replace hb2 := nb_tf hb2
  refine wp_exit ?_
  refine th_x ?_
  try clear GL2
  refine th_x ?_
  refine ib_e ?_
  refine th_n (hK5 _ _ ?_)
  clear hK8 K8 hK5 K5
  refine wp_seq_k fun K13 hK13 => ?_
  refine Sb 61 rfl ?_
  refine Smv rfl ?_
  refine Smv rfl ?_
  refine S_val (Y_eql rfl rfl) ?_
  refine Sas rfl ?_
  refine S_nl rfl rfl ?_
  refine th_n (hK13 _ _ ?_)
  clear hK13 K13
  refine wp_ret ?_
  refine ret_r1 rfl rfl ?_
  have hke : k = 1 ∧ e = 3 := by omega
  obtain ⟨rfl, rfl⟩ := hke
  exact ⟨rfl, G⟩
set_option maxHeartbeats 400000 in
set_option maxRecDepth 20000 in
theorem impl_FreeWords_c (b : Nat) (w : World) (B : Blk w b 62 [.int .i64 0, .int .i64 3, .bool false].toArray) :
    Calls Try.prog 31 #[.slice (some ⟨b, 0, none⟩) 1 1, .int .i64 3] w (Ret fun v w' => v = .int .i64 3 ∧ Grow w w') := by
 refine enter Try.func31 rfl Try.ntmps31 (L := [_,_,_,_,_,_,_,_,_,_,_,_,_,_,_,_,_,_,_,_,_,_,_,_,_,_,_]) rfl ?_
 have G := Mod.refl No w
 have B0 := B
 refine wp_seq_k fun K1 hK1 => ?_
 refine Sb 27 rfl ?_
 refine Sas rfl ?_
 refine S_nl rfl rfl ?_
 refine th_n (hK1 _ _ ?_)
 clear hK1 K1
 refine wp_seq_k fun K2 hK2 => ?_
 refine wp_seq_k fun K3 hK3 => ?_
 refine Sb 27 rfl ?_
 refine Smv rfl ?_
 refine Smv rfl ?_
 refine S_call rfl en59 (impl_BlocksValid_c _ _ (by assumption)) ?_
 rintro v1 w1 ⟨rfl, g1⟩
 replace B := B.grow g1
 replace G := G.grow g1
 have zg1 := g1.size
 refine S_val (Y_not rfl) ?_
 refine S_nl rfl rfl ?_
 refine th_n (hK3 _ _ ?_)
 clear hK3 K3
 refine S_if rfl (fun hb1 => ?_) (fun hb1 => ?_)
 ·
  first | with_reducible (replace hb1 := nb_nt hb1) | with_reducible (replace hb1 := nb_tt hb1) | with_reducible (replace hb1 := nb_bt hb1) | skip
  exact absurd hb1 (by decide)
 first | with_reducible (replace hb1 := nb_nf hb1) | with_reducible (replace hb1 := nb_tf hb1) | with_reducible (replace hb1 := nb_bf hb1) | skip
 refine wp_skip ?_
 refine th_n (hK2 _ _ ?_)
 clear hK2 K2
 refine wp_seq_k fun K4 hK4 => ?_
 refine Sb 27 rfl ?_
 refine Sas rfl ?_
 refine S_nl rfl rfl ?_
 refine th_n (hK4 _ _ ?_)
 clear hK4 K4
 refine wp_seq_k fun K5 hK5 => ?_
 refine wp_seq_k fun K6 hK6 => ?_
 refine Sb 27 rfl ?_
 refine Smv rfl ?_
 refine S_val (Y_len U63 rfl) ?_
 refine Smv rfl ?_
 refine S_nl rfl rfl ?_
 refine th_n (hK6 _ _ ?_)
 clear hK6 K6
 refine wp_block ?_
 go_loopw [5, 14] (fun u5 u14 wr => (∃ k e : Nat, u14 = .int .i64 k ∧ u5 = .int .i64 e ∧ ((k = 0 ∧ e = 0) ∨ (k = 1 ∧ e = 3))) ∧ Mod No w1 wr) (fun u5 u14 wr => 1 - (intOf u14).toNat)
 case atStart =>
  refine ⟨?_, Mod.refl _ _⟩
  exact ⟨0, 0, rfl, rfl, by omega⟩
 case round =>
  obtain ⟨w2, rfl⟩ : ∃ x : World, x = wr := ⟨_, rfl⟩
  obtain ⟨hrel, g2⟩ := hrel
  replace B := B.grow g2
  replace G := G.grow g2
  have zg2 := g2.size
  obtain ⟨k, e, rfl, rfl, hke0⟩ := hrel
  have GL2 := g2
  refine wp_seq_k fun K7 hK7 => ?_
  refine Sb 27 rfl ?_
  refine S_val (Y_lss rfl rfl) ?_
  refine S_nl rfl rfl ?_
  refine th_n (hK7 _ _ ?_)
  clear hK7 K7
  refine wp_seq_k fun K8 hK8 => ?_
  refine S_if rfl (fun hb2 => ?_) (fun hb2 => ?_)
  ·
   replace hb2 := nb_tt hb2
   have hke : k = 0 ∧ e = 0 := by omega
   obtain ⟨rfl, rfl⟩ := hke
   have cc9 : CellsAt w2 b (0 + 0 * 3) [.int .i64 0, .int .i64 3, .bool false] := B.row rfl
   refine wp_skip ?_
   refine th_n (hK8 _ _ ?_)
   clear hK8 K8
   refine wp_seq_k fun K9 hK9 => ?_
   refine wp_block ?_
   refine wp_seq_k fun K10 hK10 => ?_
   refine Sb 27 rfl ?_
   refine S_val (Y_index U63 sz62 rfl rfl (by first | assumption | omega)) ?_
   refine S_val (Y_loadS U62 rfl sz62 rfl (by first | assumption | skip)) ?_
   refine S_alloc (cs := [_, _, _]) zr62 rfl ?_
   intro b3 w3 fb3 g3 B3
   have lb3 := B3.lt
   replace B := B.grow g3
   replace G := G.grow g3
   replace GL2 := GL2.grow g3
   replace cc9 := cc9.grow g3
   have zg3 := g3.size
   refine S_stM (pre := []) (old := [_, _, _]) (post := []) (vs := [_, _, _]) sz62 rfl rfl rfl (by first | rfl | assumption) B3 rfl rfl ?_
   intro w4 m4 X4
   replace B3 := Blk.eq (ys := [_, _, _]) X4 rfl
   clear X4
   replace G := G.abv m4
   first | replace GL2 := GL2.abv m4 | try clear GL2
   replace B := B0.grow G
   clear cc9
   have zm4 := m4.size
   refine S_nl rfl rfl ?_
   refine th_n (hK10 _ _ ?_)
   clear hK10 K10
   refine wp_seq_k fun K11 hK11 => ?_
   refine Sb 27 rfl ?_
   refine S_val (Y_field U62 rfl fz62_2 (by decide) rfl) ?_
   refine S_val (Y_load U4 rfl rfl (B3.at (by rfl))) ?_
   refine S_val (Y_not rfl) ?_
   refine S_nl rfl rfl ?_
   refine th_n (hK11 _ _ ?_)
   clear hK11 K11
   refine S_if rfl (fun hb3 => ?_) (fun hb3 => ?_)
   ·
    first | with_reducible (replace hb3 := nb_nt hb3) | with_reducible (replace hb3 := nb_tt hb3) | with_reducible (replace hb3 := nb_bt hb3) | skip
    refine Sb 27 rfl ?_
    refine Smv rfl ?_
    refine S_val (Y_field U62 rfl fz62_1 (by decide) rfl) ?_
    refine S_val (Y_load U3 rfl rfl (B3.at (by rfl))) ?_
    refine S_val (Y_add rfl rfl rfl (by omega) (by omega)) ?_
    refine Sas rfl ?_
    refine S_nl rfl rfl ?_
    refine ib_n ?_
    refine th_n (hK9 _ _ ?_)
    clear hK9 K9
    refine Sb 27 rfl ?_
    refine S_val (Y_inc rfl rfl (by omega)) ?_
    refine Smv rfl ?_
    refine S_nl rfl rfl ?_
    refine th_n ?_
    go_roundw
    case rel =>
     refine ⟨?_, GL2⟩
     exact ⟨1, 3, rfl, rfl, by omega⟩
    case measure =>
     exact dec_nat (by omega)
   first | with_reducible (replace hb3 := nb_nf hb3) | with_reducible (replace hb3 := nb_tf hb3) | with_reducible (replace hb3 := nb_bf hb3) | skip
   exact absurd hb3 (by decide)
  replace hb2 := nb_tf hb2
  refine wp_exit ?_
  refine th_x ?_
  try clear GL2
  refine th_x ?_
  refine ib_e ?_
  refine th_n (hK5 _ _ ?_)
  clear hK8 K8 hK5 K5
  refine wp_seq_k fun K12 hK12 => ?_
  refine Sb 27 rfl ?_
  refine Smv rfl ?_
  refine Sas rfl ?_
  refine S_nl rfl rfl ?_
  refine th_n (hK12 _ _ ?_)
  clear hK12 K12
  refine wp_ret ?_
  refine ret_r1 rfl rfl ?_
  have hke : k = 1 ∧ e = 3 := by omega
  obtain ⟨rfl, rfl⟩ := hke
  exact ⟨rfl, G⟩
set_option maxHeartbeats 400000 in
set_option maxRecDepth 20000 in
theorem laws_alive_c (w : World) :
    Calls Try.prog 9 #[] w (Ret fun v w' => v = .bool true ∧ Grow w w') := by
 refine enter Try.func9 rfl Try.ntmps9 (L := [_,_,_,_,_]) rfl ?_
 have G := Mod.refl No w
 refine wp_seq_k fun K1 hK1 => ?_
 refine Sb 5 rfl ?_
 refine Sas rfl ?_
 refine S_nl rfl rfl ?_
 refine th_n (hK1 _ _ ?_)
 clear hK1 K1
 refine wp_seq_k fun K2 hK2 => ?_
 refine Sb 5 rfl ?_
 refine S_val (Y_build (cs := [_, _, _]) zr62 pc62 rfl rfl) ?_
 refine S_bs1 (cs := [_, _, _]) U63 zr62 sz62 rfl rfl rfl ?_
 intro b1 w1 fb1 g1 B1
 have lb1 := B1.lt
 replace G := G.grow g1
 have zg1 := g1.size
 refine S_call rfl en31 (impl_FreeWords_c _ _ (by assumption)) ?_
 rintro v2 w2 ⟨rfl, g2⟩
 replace G := G.grow g2
 replace B1 := B1.grow g2
 have zg2 := g2.size
 refine S_val (Y_eql rfl rfl) ?_
 refine Sas rfl ?_
 refine S_nl rfl rfl ?_
 refine th_n (hK2 _ _ ?_)
 clear hK2 K2
 refine wp_ret ?_
 refine ret_r1 rfl rfl ?_
 exact ⟨rfl, G⟩
end
/-! WalkDw -/
section
open Go Go.RowKit
attribute [local irreducible] wpList wpAnyH Code.wp dOp
theorem RC.both {w w' : World} {A : Option Addr} {cs : List LC} {lo hi : Nat} (h1 : RC (fun i => w.heap.size ≤ i) w' A cs) (h2 : RC (fun i => i < w'.heap.size) w' A cs) (hl : lo = w.heap.size) (hh : hi = w'.heap.size) : RC (fun i => lo ≤ i ∧ i < hi) w' A cs := fun k c hc => by
  subst hl
  subst hh
  obtain ⟨g, o, B, d, hA, hp, h3, h4⟩ := h1 k c hc
  refine ⟨g, o, B, d, hA, ⟨hp, ?_⟩, h3, fun i u hu => ?_⟩
  · exact World.block_lt_of_cell? w' _ (h3.at (j := 0) rfl)
  · obtain ⟨g', o', e', hp', hc'⟩ := h4 i u hu
    exact ⟨g', o', e', ⟨hp', World.block_lt_of_cell? w' _ hc'⟩, hc'⟩
theorem R1.both {w w' : World} {A : Option Addr} {us : List Value} {lo hi : Nat} (h1 : R1 (fun i => w.heap.size ≤ i) w' A us) (h2 : R1 (fun i => i < w'.heap.size) w' A us) (hl : lo = w.heap.size) (hh : hi = w'.heap.size) : R1 (fun i => lo ≤ i ∧ i < hi) w' A us := fun k u hu => by
  subst hl
  subst hh
  obtain ⟨g, o, e, hp, hc⟩ := h1 k u hu
  exact ⟨g, o, e, ⟨hp, World.block_lt_of_cell? w' _ hc⟩, hc⟩
end
/-! Lw -/
section
open Go
theorem vN {b : Bool} (h : b = false) : Value.bool (!b) = .bool true := by rw [h]; rfl
/-- Rows of references that can be read. -/
structure RF (Pr : Nat → Prop) (w : World) (cs : List LC) (rs : List (Option Addr × Nat)) : Prop where
  len : rs.length = cs.length
  r1 : ∀ (i : Nat) (c : LC) (r : Option Addr × Nat), cs[i]? = some c → rs[i]? = some r → R1 Pr w r.1 (ints c.refs)
theorem met_bndV {h : LH} (hv : validB h = true) : Bnd h.cells.length (metV h) := by rw [metV_t hv]; exact order_bnd (valid_iff.1 hv)
end
/-! Row -/
section
open Go Go.RowKit
section
variable {P : Program} {F : Fr} {w : World} {t : TypeId} {x y : Operand} {Pr : Nat → Prop} {e : TypeId} {us : List Value}
/-- An element of an owned row that may be made longer is written. -/
theorem Ys_rowW {b k n cap : Nat} {v : Value} (hs : sz P t = some 1) (O : OW Pr w e 1 (some ⟨b, 0, none⟩) n cap us) (hk : k < us.length) (hx : ev F x = some (.pointer (some ⟨b, 0 + k * 1, none⟩))) (hy : ev F y = some v) (hv : v.cells = #[v]) (h1 : v.oneCell' = true) :
    ∃ w', Ys P F (.store t x y) w w' ∧ Mod (fun i => i = b) w w' ∧ Pr b ∧ OW Pr w' e 1 (some ⟨b, 0, none⟩) n cap (us.set k v) := by
  have e1 : us = us.take k ++ [us[k]] ++ us.drop (k + 1) := split_at (List.getElem?_eq_getElem hk)
  rw [e1] at O
  obtain ⟨w', h2, h3, h4, _, h6⟩ := Ys_ow (x := x) (y := y) (vs := [v]) (t := t) hs O hx hy hv (by simp [oneL, h1]) (by rw [List.length_take]; omega) rfl (by simp)
  refine ⟨w', h2, h3, h4, ?_⟩
  rw [List.set_eq_take_append_cons_drop, if_pos hk]
  simpa using h6
end
theorem bools_ne {bs : List Bool} (h : 0 < bs.length) : bools bs ≠ [] := fun e => by
  have h9 := congrArg List.length e
  rw [bools_len] at h9
  have h8 : bs.length = 0 := h9
  omega
end
/-! WalkDt -/
section
open Go Go.RowKit
attribute [local irreducible] wpList wpAnyH Code.wp dOp
set_option maxHeartbeats 400000 in
set_option maxRecDepth 20000 in
theorem spec_Reachable2_c (Pr : Nat → Prop) (A B : Option Addr) (h : LH) (c d : Nat) (w : World) (hA : RC Pr w A h.cells) (hB : R1 Pr w B (ints h.roots)) (hz : hsize h ≤ 1048576) :
    Calls Try.prog 78 #[.agg #[.slice A h.cells.length c, .slice B h.roots.length d]] w (Ret fun v w' => ∃ A1 q cap, v = .slice A1 q cap ∧ q = (reachV h).length ∧ OW (fun i => w.heap.size ≤ i) w' 4 1 A1 q cap (bools (reachV h)) ∧ Grow w w') := by
 refine enter Try.func78 rfl Try.ntmps78 (L := [_,_,_,_,_,_,_,_,_,_,_]) rfl ?_
 have G := Mod.refl No w
 have hA0 := hA
 have hB0 := hB
 refine wp_seq_k fun K1 hK1 => ?_
 refine Sb 11 rfl ?_
 refine S_box (cs := [_, _]) rfl rfl ?_
 intro b1 w1 fb1 g1 B1
 have lb1 := B1.lt
 replace hA := hA.grow g1
 replace hB := hB.grow g1
 replace G := G.grow g1
 have zg1 := g1.size
 refine Sas rfl ?_
 refine S_nl rfl rfl ?_
 refine th_n (hK1 _ _ ?_)
 clear hK1 K1
 refine wp_seq_k fun K2 hK2 => ?_
 refine wp_seq_k fun K3 hK3 => ?_
 refine Sb 11 rfl ?_
 refine S_val (Y_loadS U26 rfl sz26 rfl (B1.row (by rfl))) ?_
 refine S_call rfl en44 (spec_HeapValid_c _ _ _ _ _ _ _ (by assumption) (by assumption) (by omega)) ?_
 rintro v2 w2 ⟨rfl, g2⟩
 replace hA := hA.grow g2
 replace hB := hB.grow g2
 replace G := G.grow g2
 replace B1 := B1.grow g2
 have zg2 := g2.size
 refine S_val (Y_not rfl) ?_
 refine S_nl rfl rfl ?_
 refine th_n (hK3 _ _ ?_)
 clear hK3 K3
 refine S_if rfl (fun hb1 => ?_) (fun hb1 => ?_)
 ·
  first | with_reducible (replace hb1 := nb_nt hb1) | with_reducible (replace hb1 := nb_tt hb1) | with_reducible (replace hb1 := nb_bt hb1) | skip
  refine wp_seq_k fun K4 hK4 => ?_
  refine Sb 11 rfl ?_
  refine S_bs0 U40 sz4 ?_
  intro b3 w3 fb3 g3 B3
  have lb3 := B3.lt
  replace hA := hA.grow g3
  replace hB := hB.grow g3
  replace G := G.grow g3
  replace B1 := B1.grow g3
  have zg3 := g3.size
  refine Sas rfl ?_
  refine S_nl rfl rfl ?_
  refine th_n (hK4 _ _ ?_)
  clear hK4 K4
  refine wp_ret ?_
  refine th_r ?_
  clear hK2 K2
  refine ret_r1 rfl rfl ?_
  exact ⟨_, _, _, rfl, by rw [reachV_f hb1]; rfl, by rw [reachV_f hb1]; exact OW.of_blk (by assumption) rfl (by decide) (by omega), G⟩
 first | with_reducible (replace hb1 := nb_nf hb1) | with_reducible (replace hb1 := nb_tf hb1) | with_reducible (replace hb1 := nb_bf hb1) | skip
 have va := valid_iff.1 hb1
 have hl := va.leads
 have h40 := va.le
 have hr4 := va.roots4
 have hrl := reachV_len hb1
 refine wp_skip ?_
 refine th_n (hK2 _ _ ?_)
 clear hK2 K2
 refine wp_seq_k fun K5 hK5 => ?_
 refine Sb 11 rfl ?_
 refine S_val (Y_loadS U26 rfl sz26 rfl (B1.row (by rfl))) ?_
 refine S_val (Y_field U26 rfl fz26_1 (by decide) rfl) ?_
 refine S_val (Y_load U24 rfl rfl (B1.at (by rfl))) ?_
 refine S_call rfl en46 (spec_l7Reach_c _ _ _ _ _ _ _ _ _ _ _ (by assumption) (by assumption) (by omega) (by omega) (by assumption)) ?_
 rintro v4 w4 ⟨b4, rfl, fb4, B4, g4⟩
 replace hA := hA.grow g4
 replace hB := hB.grow g4
 replace G := G.grow g4
 replace B1 := B1.grow g4
 have zg4 := g4.size
 have lb4 := B4.lt
 refine Sas rfl ?_
 refine S_nl rfl rfl ?_
 refine th_n (hK5 _ _ ?_)
 clear hK5 K5
 refine wp_ret ?_
 refine ret_r1 rfl rfl ?_
 exact ⟨_, _, _, rfl, hrl.symm, by rw [reachV_t hb1]; exact OW.of_blk (by assumption) (by rw [bools_len, mB_len, Nat.mul_one]) (by unfold maxLen; omega) (by omega), G⟩
end
/-! WalkLz -/
section
open Go Go.RowKit
attribute [local irreducible] wpList wpAnyH Code.wp dOp
theorem RC.tigh2 {P : Nat → Prop} {w : World} {A : Option Addr} {cs : List LC} {lo hi : Nat} (h : RC P w A cs) (hl : ∀ k, P k → lo ≤ k) (hh : hi = w.heap.size) : RC (fun k => P k ∧ lo ≤ k ∧ k < hi) w A cs := fun k c hc => by
  subst hh
  obtain ⟨g, o, B, d, hA, hp, h3, h4⟩ := h k c hc
  refine ⟨g, o, B, d, hA, ⟨hp, hl g hp, World.block_lt_of_cell? w _ (h3.at (j := 0) rfl)⟩, h3, fun i u hu => ?_⟩
  obtain ⟨g', o', e', hp', hc'⟩ := h4 i u hu
  exact ⟨g', o', e', ⟨hp', hl g' hp', World.block_lt_of_cell? w _ hc'⟩, hc'⟩
theorem R1.tigh2 {P : Nat → Prop} {w : World} {A : Option Addr} {us : List Value} {lo hi : Nat} (h : R1 P w A us) (hl : ∀ k, P k → lo ≤ k) (hh : hi = w.heap.size) : R1 (fun k => P k ∧ lo ≤ k ∧ k < hi) w A us := fun k u hu => by
  subst hh
  obtain ⟨g, o, e, hp, hc⟩ := h k u hu
  exact ⟨g, o, e, ⟨hp, hl g hp, World.block_lt_of_cell? w _ hc⟩, hc⟩
theorem OW.tigh2 {P : Nat → Prop} {w : World} {e : TypeId} {s n cap : Nat} {A : Option Addr} {us : List Value} {lo hi : Nat} (h : OW P w e s A n cap us) (hl : ∀ k, P k → lo ≤ k) (hh : hi = w.heap.size) : OW (fun k => P k ∧ lo ≤ k ∧ k < hi) w e s A n cap us := by
  subst hh
  exact h.lt.weak fun k hk => ⟨hk.1, hl k hk.1, hk.2⟩
def fldI (w : World) (b i : Nat) : Nat := match w.cell? ⟨b, i, none⟩ with
  | some (.int _ n) => n.toNat
  | _ => 0
theorem fldI_eq {w : World} {b i m : Nat} {e : TypeId} {k : IntKind} {arr : Array Value} (h : Blk w b e arr) (hi : arr[i]? = some (.int k (m : Int))) : fldI w b i = m := by
  unfold fldI
  rw [h.at hi]
  simp
theorem lazB_true {h : LH} {ms : List Bool} {x : Int} (hl : lazB h ms x = true) : Valid h ∧ ms.length = h.cells.length ∧ 0 ≤ x ∧ x ≤ (ms.length : Int) := by
  unfold lazB at hl
  simp only [Bool.and_eq_true, decide_eq_true_eq] at hl
  exact ⟨valid_iff.1 hl.1, hl.2.1, hl.2.2.1, hl.2.2.2.1⟩
theorem refs_cell {h : LH} (v : Valid h) {i : Nat} (hi : i < h.cells.length) (hr : 0 < h.cells[i].refs.length) : h.cells[i].used = true := by
  cases hu : h.cells[i].used with
  | true => rfl
  | false => have := ((v.cells i hi).2 hu).2; omega
set_option maxHeartbeats 400000 in
set_option maxRecDepth 20000 in
theorem spec_LazyStart2_c (Pr : Nat → Prop) (A B : Option Addr) (h : LH) (c d : Nat) (w : World) (hA : RC Pr w A h.cells) (hB : R1 Pr w B (ints h.roots)) (hz : hsize h ≤ 1048576) (hz300 : hsize h ≤ 300) :
    Calls Try.prog 66 #[.agg #[.slice A h.cells.length c, .slice B h.roots.length d]] w (Ret fun v w' => ∃ (A1 B1 C1 : Option Addr) (n1 c1 n2 c2 n3 c3 : Nat) (h2 : LH) (ns : List Bool) (y : Int) (P1 P2 : Nat → Prop), v = .agg #[.slice A1 n1 c1, .slice B1 n2 c2, .slice C1 n3 c3, .int .i64 y] ∧ n1 = h2.cells.length ∧ n2 = h2.roots.length ∧ n3 = ns.length ∧ hsize h2 ≤ 300 ∧ ns.length ≤ 300 ∧ (0 ≤ y ∧ y ≤ 300) ∧ (∀ i : Nat, P1 i → w.heap.size ≤ i ∧ ¬ P2 i) ∧ (∀ i : Nat, P2 i → w.heap.size ≤ i) ∧ RC P1 w' A1 h2.cells ∧ R1 P1 w' B1 (ints h2.roots) ∧ OW P2 w' 4 1 C1 n3 c3 (bools ns) ∧ Grow w w') := by
 have hz1 := hsize_cells h
 have hz2 := hsize_roots h
 have hne : (50 : TypeId) ≠ 3 := by decide
 have hrl := reachV_le h
 refine enter Try.func66 rfl Try.ntmps66 (L := [_,_,_,_,_,_,_,_,_,_,_,_]) rfl ?_
 have G := Mod.refl No w
 have hA0 := hA
 have hB0 := hB
 refine wp_seq_k fun K1 hK1 => ?_
 refine Sb 12 rfl ?_
 refine S_box (cs := [_, _]) rfl rfl ?_
 intro b1 w1 fb1 g1 B1
 have lb1 := B1.lt
 replace hA := hA.grow g1
 replace hB := hB.grow g1
 replace G := G.grow g1
 have zg1 := g1.size
 refine S_alloc (cs := [_, _, _, _]) zr42 rfl ?_
 intro b2 w2 fb2 g2 B2
 have lb2 := B2.lt
 replace hA := hA.grow g2
 replace hB := hB.grow g2
 replace G := G.grow g2
 replace B1 := B1.grow g2
 have zg2 := g2.size
 refine S_nl rfl rfl ?_
 refine th_n (hK1 _ _ ?_)
 clear hK1 K1
 refine wp_seq_k fun K2 hK2 => ?_
 refine wp_seq_k fun K3 hK3 => ?_
 refine Sb 12 rfl ?_
 refine S_val (Y_loadS U26 rfl sz26 rfl (B1.row (by rfl))) ?_
 refine S_call rfl en44 (spec_HeapValid_c _ _ _ _ _ _ _ (by assumption) (by assumption) (by omega)) ?_
 rintro v3 w3 ⟨rfl, g3⟩
 replace hA := hA.grow g3
 replace hB := hB.grow g3
 replace G := G.grow g3
 replace B1 := B1.grow g3
 replace B2 := B2.grow g3
 have zg3 := g3.size
 refine S_val (Y_not rfl) ?_
 refine S_nl rfl rfl ?_
 refine th_n (hK3 _ _ ?_)
 clear hK3 K3
 refine S_if rfl (fun hb1 => ?_) (fun hb1 => ?_)
 ·
  first | with_reducible (replace hb1 := nb_nt hb1) | with_reducible (replace hb1 := nb_tt hb1) | with_reducible (replace hb1 := nb_bt hb1) | skip
  refine wp_seq_k fun K4 hK4 => ?_
  refine Sb 12 rfl ?_
  refine S_val (Y_build (cs := [_, _, _, _]) zr42 pc42 rfl rfl) ?_
  refine S_stM (pre := []) (old := [_, _, _, _]) (post := []) (vs := [_, _, _, _]) sz42 rfl rfl rfl (by first | rfl | assumption) B2 rfl rfl ?_
  intro w4 m4 X4
  replace B2 := Blk.eq (ys := [_, _, _, _]) X4 rfl
  clear X4
  replace G := G.abv m4
  replace hA := hA0.grow G
  replace hB := hB0.grow G
  replace B1 := B1.md m4
  have zm4 := m4.size
  refine S_nl rfl rfl ?_
  refine th_n (hK4 _ _ ?_)
  clear hK4 K4
  refine wp_ret ?_
  refine th_r ?_
  clear hK2 K2
  refine ret_rc (cs := [_, _, _, _]) U42 rfl sz42 rfl rfl (B2.row (by rfl)) ?_
  exact ⟨_, _, _, _, _, _, _, _, _, nilH, [], 0, No, No, rfl, rfl, rfl, rfl, by decide, by decide, ⟨by decide, by decide⟩, fun i h => h.elim, fun i h => h.elim, (OH.nil No _ 50 3 none none).rc, (OH.nil No _ 50 3 none none).r1, OW.nil _ _ _ _, G⟩
 first | with_reducible (replace hb1 := nb_nf hb1) | with_reducible (replace hb1 := nb_tf hb1) | with_reducible (replace hb1 := nb_bf hb1) | skip
 refine wp_skip ?_
 refine th_n (hK2 _ _ ?_)
 clear hK2 K2
 refine wp_seq_k fun K5 hK5 => ?_
 refine D_start 6 12 (fun w => Mod (fun i => i = b2) w) follows rfl rfl ?_
 intro w5 g5
 replace hA := hA.grow g5
 replace hB := hB.grow g5
 replace G := G.grow g5
 replace B1 := B1.grow g5
 replace B2 := B2.grow g5
 have zg5 := g5.size
 have GS5 := Mod.refl (fun i => i = b2) w5
 refine Dq (i := 0) rfl GS5 (fun _ hs => Y_loadS U26 rfl sz26 rfl (by first | exact CellsAt.mod (B1.row (by rfl)) hs (by intro h; first | omega | (dsimp only at h; omega)))) ?_
 refine Dq (i := 2) rfl GS5 (fun _ hs => Y_loadS U26 rfl sz26 rfl (by first | exact CellsAt.mod (B1.row (by rfl)) hs (by intro h; first | omega | (dsimp only at h; omega)))) ?_
 refine D_1 (i := 1) (by kernel_rfl) ?_
 refine E_call rfl rfl en25 (spec_l7Copy2_c _ _ _ _ _ _ _ (by assumption) (by assumption) (by omega)) ?_
 rintro v6 w6 ⟨A6, B6, n16, c16, n26, c26, rs6, rfl, hn16, hn26, O6, g6⟩
 replace hA := hA.grow g6
 replace hB := hB.grow g6
 replace G := G.grow g6
 replace GS5 := GS5.grow g6
 replace B1 := B1.grow g6
 replace B2 := B2.grow g6
 have zg6 := g6.size
 subst hn16
 subst hn26
 obtain ⟨AH, rfl⟩ : ∃ x, x = A6 := ⟨_, rfl⟩
 obtain ⟨BH, rfl⟩ : ∃ x, x = B6 := ⟨_, rfl⟩
 obtain ⟨cH, rfl⟩ : ∃ x, x = c16 := ⟨_, rfl⟩
 obtain ⟨dH, rfl⟩ : ∃ x, x = c26 := ⟨_, rfl⟩
 obtain ⟨rsH, rfl⟩ : ∃ x, x = rs6 := ⟨_, rfl⟩
 have OX := O6.lt
 refine ⟨GS5, ?_⟩
 refine D_1 (i := 3) (by kernel_rfl) ?_
 refine E_call rfl rfl en78 (spec_Reachable2_c _ _ _ _ _ _ _ (by assumption) (by assumption) (by omega)) ?_
 rintro v7 w7 ⟨A7, q7, cap7, rfl, hq7, O7, g7⟩
 replace hA := hA.grow g7
 replace hB := hB.grow g7
 replace OX := OX.grow g7
 replace G := G.grow g7
 replace GS5 := GS5.grow g7
 replace B1 := B1.grow g7
 replace B2 := B2.grow g7
 have zg7 := g7.size
 subst hq7
 obtain ⟨AM, rfl⟩ : ∃ x, x = A7 := ⟨_, rfl⟩
 obtain ⟨cM, rfl⟩ : ∃ x, x = cap7 := ⟨_, rfl⟩
 have OM := O7.lt
 refine ⟨GS5, ?_⟩
 refine Dq (i := 4) rfl GS5 (fun _ _ => Y_build (cs := [_, _, _, _]) zr42 pc42 rfl rfl) ?_
 refine D_1 (i := 5) (by kernel_rfl) ?_
 refine E_stM (pre := []) (old := [_, _, _, _]) (post := []) (vs := [_, _, _, _]) (i := 5) rfl sz42 rfl rfl rfl (by first | rfl | assumption) B2 rfl rfl ?_
 intro w8 m8 X8
 replace B2 := Blk.eq (ys := [_, _, _, _]) X8 rfl
 clear X8
 replace G := G.abv m8
 replace GS5 := GS5.trn m8
 replace hA := hA0.grow G
 replace hB := hB0.grow G
 replace OX := OX.md m8
 replace OM := OM.md m8
 replace B1 := B1.md m8
 have zm8 := m8.size
 refine ⟨GS5, ?_⟩
 refine D_en (by kernel_rfl) rfl rfl ?_
 refine th_n (hK5 _ _ ?_)
 clear hK5 K5
 refine wp_ret ?_
 refine ret_rc (cs := [_, _, _, _]) U42 rfl sz42 rfl rfl (B2.row (by rfl)) ?_
 refine ⟨_, _, _, _, _, _, _, _, _, h, reachV h, 0, _, _, rfl, rfl, rfl, rfl, hz300, by omega, ⟨by decide, by decide⟩, ?_, ?_, OX.rc, OX.r1, OM, G⟩
 · intro i hi
   exact ⟨by first | omega | (dsimp only at hi; omega), fun hj => by first | omega | (dsimp only at hi hj; omega)⟩
 · intro i hi
   first | omega | (dsimp only at hi; omega)
set_option maxHeartbeats 4000000 in
set_option maxRecDepth 20000 in
theorem spec_LazyTake_c (P0 : Nat → Prop) (A B C : Option Addr) (h : LH) (ms : List Bool) (x : Int) (c d e : Nat) (w : World) (hA : RC P0 w A h.cells) (hB : R1 P0 w B (ints h.roots)) (hC : R1 P0 w C (bools ms)) (hz : hsize h ≤ 1048576) (hxz : ms.length ≤ 1048576) (hx : -9223372036854775808 ≤ x ∧ x ≤ 9223372036854775807) :
    Calls Try.prog 67 #[.agg #[.slice A h.cells.length c, .slice B h.roots.length d, .slice C ms.length e, .int .i64 x]] w (Ret fun v w' => ∃ (A1 B1 C1 : Option Addr) (n1 c1 n2 c2 n3 c3 : Nat) (h2 : LH) (ns : List Bool) (y : Int) (r : Int) (P1 P2 : Nat → Prop), v = .tuple #[.agg #[.slice A1 n1 c1, .slice B1 n2 c2, .slice C1 n3 c3, .int .i64 y], .int .i64 r] ∧ n1 = h2.cells.length ∧ n2 = h2.roots.length ∧ n3 = ns.length ∧ hsize h2 ≤ 300 ∧ ns.length ≤ 300 ∧ (0 ≤ y ∧ y ≤ 300) ∧ (∀ i : Nat, P1 i → w.heap.size ≤ i ∧ ¬ P2 i) ∧ (∀ i : Nat, P2 i → w.heap.size ≤ i) ∧ RC P1 w' A1 h2.cells ∧ R1 P1 w' B1 (ints h2.roots) ∧ OW P2 w' 4 1 C1 n3 c3 (bools ns) ∧ Grow w w') := by
 have hz1 := hsize_cells h
 have hz2 := hsize_roots h
 have hne : (50 : TypeId) ≠ 3 := by decide
 have hnb : (50 : TypeId) ≠ 4 := by decide
 refine enter Try.func67 rfl Try.ntmps67 (L := [_,_,_,_,_,_,_,_,_,_,_,_,_,_,_,_,_,_,_,_,_,_,_,_,_,_,_,_,_,_,_,_,_,_,_,_,_,_,_,_,_,_,_,_,_,_,_,_,_,_,_,_,_,_,_,_,_,_,_,_,_,_,_,_,_,_,_,_,_,_,_,_,_,_,_,_,_,_,_,_,_,_,_,_,_,_,_,_,_,_,_,_,_,_,_,_,_,_,_,_,_,_,_,_,_,_,_,_,_]) rfl ?_
 have G := Mod.refl No w
 have hA0 := hA
 have hB0 := hB
 have hC0 := hC
 refine wp_seq_k fun K1 hK1 => ?_
 refine Sb 109 rfl ?_
 refine S_box (cs := [_, _, _, _]) rfl rfl ?_
 intro b1 w1 fb1 g1 B1
 have lb1 := B1.lt
 replace hA := hA.grow g1
 replace hB := hB.grow g1
 replace hC := hC.grow g1
 replace G := G.grow g1
 have zg1 := g1.size
 refine S_alloc (cs := [_, _, _, _]) zr42 rfl ?_
 intro b2 w2 fb2 g2 B2
 have lb2 := B2.lt
 replace hA := hA.grow g2
 replace hB := hB.grow g2
 replace hC := hC.grow g2
 replace G := G.grow g2
 replace B1 := B1.grow g2
 have zg2 := g2.size
 refine Sas rfl ?_
 refine S_nl rfl rfl ?_
 refine th_n (hK1 _ _ ?_)
 clear hK1 K1
 refine wp_seq_k fun K2 hK2 => ?_
 refine wp_seq_k fun K3 hK3 => ?_
 refine Sb 109 rfl ?_
 refine S_val (Y_loadS U42 rfl sz42 rfl (B1.row (by rfl))) ?_
 refine S_call rfl en16 (spec_LazyValid_c _ _ _ _ h ms x _ _ _ _ hA hB hC (by omega) (by omega) hx) ?_
 rintro v3 w3 ⟨rfl, g3⟩
 replace hA := hA.grow g3
 replace hB := hB.grow g3
 replace hC := hC.grow g3
 replace G := G.grow g3
 replace B1 := B1.grow g3
 replace B2 := B2.grow g3
 have zg3 := g3.size
 refine S_val (Y_not rfl) ?_
 refine S_nl rfl rfl ?_
 refine th_n (hK3 _ _ ?_)
 clear hK3 K3
 refine S_if rfl (fun hb1 => ?_) (fun hb1 => ?_)
 ·
  first | with_reducible (replace hb1 := nb_nt hb1) | with_reducible (replace hb1 := nb_tt hb1) | with_reducible (replace hb1 := nb_bt hb1) | skip
  refine wp_seq_k fun K4 hK4 => ?_
  refine Sb 109 rfl ?_
  refine S_val (Y_build (cs := [_, _, _, _]) zr42 pc42 rfl rfl) ?_
  refine S_stM (pre := []) (old := [_, _, _, _]) (post := []) (vs := [_, _, _, _]) sz42 rfl rfl rfl (by first | rfl | assumption) B2 rfl rfl ?_
  intro w4 m4 X4
  replace B2 := Blk.eq (ys := [_, _, _, _]) X4 rfl
  clear X4
  replace G := G.abv m4
  replace hA := hA0.grow G
  replace hB := hB0.grow G
  replace hC := hC0.grow G
  replace B1 := B1.md m4
  have zm4 := m4.size
  refine Sas rfl ?_
  refine S_nl rfl rfl ?_
  refine th_n (hK4 _ _ ?_)
  clear hK4 K4
  refine wp_ret ?_
  refine th_r ?_
  clear hK2 K2
  refine ret_rct (cs := [_, _, _, _]) U42 rfl sz42 rfl rfl rfl (B2.row (by rfl)) ?_
  exact ⟨_, _, _, _, _, _, _, _, _, nilH, [], 0, _, No, No, rfl, rfl, rfl, rfl, by decide, by decide, ⟨by decide, by decide⟩, fun i h => h.elim, fun i h => h.elim, (OH.nil No _ 50 3 none none).rc, (OH.nil No _ 50 3 none none).r1, OW.nil _ _ _ _, G⟩
 first | with_reducible (replace hb1 := nb_nf hb1) | with_reducible (replace hb1 := nb_tf hb1) | with_reducible (replace hb1 := nb_bf hb1) | skip
 obtain ⟨va, hml, hx0, hxN⟩ := lazB_true hb1
 have h40 := va.le
 obtain ⟨a0, rfl⟩ := Int.eq_ofNat_of_zero_le hx0
 refine wp_skip ?_
 refine th_n (hK2 _ _ ?_)
 clear hK2 K2
 refine wp_seq_k fun K5 hK5 => ?_
 refine D_cut (fun a' w' => ∃ (b904 b916 loX hiX loZ hiZ : Nat) (AH BH AM : Option Addr) (cH dH cM : Nat) (rsH : List (Option Addr × Nat)) (L : List Value), a' = ⟨L.toArray, []⟩ ∧ L.length = 109 ∧ L[2]? = some (.pointer (some ⟨b2, 0, none⟩)) ∧ L[4]? = some (.pointer (some ⟨b904, 0, none⟩)) ∧ Mod (No) w3 w' ∧ (Blk w' b904 42 [.slice AH h.cells.length cH, .slice BH h.roots.length dH, .slice AM ms.length cM, .int .i64 (a0 : Int)].toArray) ∧ (XH (fun i => loX ≤ i ∧ i < hiX) w' 50 3 AH BH h rsH cH dH) ∧ (OW (fun i => (i = b916 ∨ loZ ≤ i) ∧ i < hiZ) w' 4 1 AM ms.length cM (bools ms)) ∧ (b2 < loX ∧ b2 < b916 ∧ b2 < loZ ∧ b2 < b904 ∧ (b916 < loX ∨ hiX ≤ b916) ∧ (hiX ≤ loZ ∨ hiZ ≤ loX) ∧ (b904 < loX ∨ hiX ≤ b904) ∧ (b904 < loZ ∨ hiZ ≤ b904) ∧ b904 ≠ b916)) ?_ ?_
 ·
  refine D_start 12 109 (fun w => Mod (No) w) follows rfl rfl ?_
  intro w5 g5
  replace hA := hA.grow g5
  replace hB := hB.grow g5
  replace hC := hC.grow g5
  replace G := G.grow g5
  replace B1 := B1.grow g5
  replace B2 := B2.grow g5
  have zg5 := g5.size
  have GS5 := Mod.refl (No) w5
  have B1d5 := B1
  refine Dq (i := 0) rfl GS5 (fun _ _ => Y_field U42 rfl fz42_0 (by decide) rfl) ?_
  refine Dq (i := 1) rfl GS5 (fun _ hs => Y_loadS U26 rfl sz26 rfl (by first | exact hs.cells0 ((CellsAt.of_blk (pre := []) (us := [_, _]) (post := [_, _]) B1 rfl)))) ?_
  refine Dq (i := 4) rfl GS5 (fun _ _ => Y_field U42 rfl fz42_1 (by decide) rfl) ?_
  refine Dq (i := 5) rfl GS5 (fun _ hs => Y_load U40 rfl rfl (hs.cell0 (B1.at (by rfl)))) ?_
  refine Dq (i := 7) rfl GS5 (fun _ _ => Y_field U42 rfl fz42_2 (by decide) rfl) ?_
  refine Dq (i := 8) rfl GS5 (fun _ hs => Y_load U3 rfl rfl (hs.cell0 (B1.at (by rfl)))) ?_
  refine D_3 (i := 2) (j := 3) (k := 10) (by kernel_rfl) ?_ ?_ ?_
  ·
   refine E_call rfl rfl en25 (spec_l7Copy2_c _ _ _ h _ _ _ hA hB (by omega)) ?_
   rintro v7 w7 ⟨A7, B7, n17, c17, n27, c27, rs7, rfl, hn17, hn27, O7, g7⟩
   replace hA := hA.grow g7
   replace hB := hB.grow g7
   replace hC := hC.grow g7
   replace G := G.grow g7
   replace GS5 := GS5.grow g7
   replace B1 := B1.grow g7
   replace B2 := B2.grow g7
   have zg7 := g7.size
   subst hn17
   subst hn27
   obtain ⟨AH, rfl⟩ : ∃ x, x = A7 := ⟨_, rfl⟩
   obtain ⟨BH, rfl⟩ : ∃ x, x = B7 := ⟨_, rfl⟩
   obtain ⟨cH, rfl⟩ : ∃ x, x = c17 := ⟨_, rfl⟩
   obtain ⟨dH, rfl⟩ : ∃ x, x = c27 := ⟨_, rfl⟩
   obtain ⟨rsH, rfl⟩ : ∃ x, x = rs7 := ⟨_, rfl⟩
   obtain ⟨loX, hloX⟩ : ∃ x, x = w5.heap.size := ⟨_, rfl⟩
   obtain ⟨hiX, hhiX⟩ : ∃ x, x = w7.heap.size := ⟨_, rfl⟩
   have OX := (O7.lt).weak (Pr' := fun i => loX ≤ i ∧ i < hiX) (fun i hi => by first | omega | (dsimp only at hi ⊢; omega))
   refine ⟨GS5, ?_⟩
   refine D_2 (i := 3) (j := 10) (by kernel_rfl) ?_ ?_
   ·
    refine E_bs0 (i := 3) rfl U40 sz4 ?_
    intro b8 w8 fb8 g8 B8
    refine ⟨GS5.grow g8, ?_⟩
    have lb8 := B8.lt
    replace hA := hA.grow g8
    replace hB := hB.grow g8
    replace hC := hC.grow g8
    replace OX := OX.grow g8
    replace G := G.grow g8
    replace GS5 := GS5.grow g8
    replace B1 := B1.grow g8
    replace B2 := B2.grow g8
    have zg8 := g8.size
    refine D_2 (i := 6) (j := 10) (by kernel_rfl) ?_ ?_
    ·
     obtain ⟨loZ, hloZ⟩ : ∃ x, x = w8.heap.size := ⟨_, rfl⟩
     have OM : OW (fun i => i = b8) w8 4 1 (some ⟨b8, 0, none⟩) 0 0 [] := OW.of_blk B8 rfl (by decide) rfl
     refine E_app0 (i := 6) rfl (news := bools ms) U40 zr4 sz4 by4 rfl rfl OM (by rw [bools_len]; omega) (by have hsr := Src.r1 hC; rw [bools_len] at hsr; exact hsr) bools_one (by omega) (Pr' := fun i => i = b8 ∨ loZ ≤ i) (fun i hi => .inl hi) (by first | omega | (dsimp only; omega)) ?_
     intro A9 cap9 w9 X9 m9
     obtain ⟨hiZ, hhiZ⟩ : ∃ x, x = w9.heap.size := ⟨_, rfl⟩
     replace OM := (X9.lt).weak (Pr' := (fun i => (i = b8 ∨ loZ ≤ i) ∧ i < hiZ)) (fun i hi => ⟨hi.1, by have h9 := hi.2; omega⟩)
     clear X9
     replace G := G.abv m9
     replace GS5 := GS5.abv m9
     replace hA := hA0.grow G
     replace hB := hB0.grow G
     replace hC := hC0.grow G
     replace OX := OX.md m9
     replace B1 := B1.md m9
     replace B2 := B2.md m9
     have zm9 := m9.size
     refine ⟨GS5, ?_⟩
     obtain ⟨AM, rfl⟩ : ∃ x, x = A9 := ⟨_, rfl⟩
     obtain ⟨cM, rfl⟩ : ∃ x, x = cap9 := ⟨_, rfl⟩
     refine Dq (i := 9) rfl GS5 (fun _ _ => Y_build (cs := [_, _, _, _]) zr42 pc42 rfl rfl) ?_
     refine D_1 (i := 10) (by kernel_rfl) ?_
     refine E_alloc (cs := [_, _, _, _]) rfl zr42 rfl (fun b10 w10 fb10 g10 B10 => ⟨GS5.grow g10, ?_⟩)
     have lb10 := B10.lt
     replace hA := hA.grow g10
     replace hB := hB.grow g10
     replace hC := hC.grow g10
     replace OX := OX.grow g10
     replace OM := OM.grow g10
     replace G := G.grow g10
     replace GS5 := GS5.grow g10
     replace B1 := B1.grow g10
     replace B2 := B2.grow g10
     have zg10 := g10.size
     refine D_1 (i := 11) (by kernel_rfl) ?_
     refine E_stM (pre := []) (old := [_, _, _, _]) (post := []) (vs := [_, _, _, _]) (i := 11) rfl sz42 rfl rfl rfl (by first | rfl | assumption) B10 rfl rfl ?_
     intro w11 m11 X11
     replace B10 := Blk.eq (ys := [_, _, _, _]) X11 rfl
     clear X11
     replace G := G.abv m11
     replace GS5 := GS5.abv m11
     replace hA := hA0.grow G
     replace hB := hB0.grow G
     replace hC := hC0.grow G
     replace OX := OX.md m11
     replace OM := OM.md m11
     replace B1 := B1.md m11
     replace B2 := B2.md m11
     have zm11 := m11.size
     refine ⟨GS5, ?_⟩
     refine D_en (by kernel_rfl) rfl rfl ?_
     exact ⟨rfl, _, _, _, _, _, _, _, _, _, _, _, _, _, _, rfl, rfl, rfl, rfl, g5.grow GS5, B10, OX, OM, ⟨by omega, by omega, by omega, by omega, by omega, by omega, by omega, by omega, by omega⟩⟩
    refine E_alloc (cs := [_, _, _, _]) rfl zr42 rfl (fun b12 w12 fb12 g12 B12 => ⟨GS5.grow g12, ?_⟩)
    have lb12 := B12.lt
    replace hA := hA.grow g12
    replace hB := hB.grow g12
    replace hC := hC.grow g12
    replace OX := OX.grow g12
    replace G := G.grow g12
    replace GS5 := GS5.grow g12
    replace B1 := B1.grow g12
    replace B2 := B2.grow g12
    replace B8 := B8.grow g12
    have zg12 := g12.size
    refine D_1 (i := 6) (by kernel_rfl) ?_
    obtain ⟨loZ, hloZ⟩ : ∃ x, x = w12.heap.size := ⟨_, rfl⟩
    have OM : OW (fun i => i = b8) w12 4 1 (some ⟨b8, 0, none⟩) 0 0 [] := OW.of_blk B8 rfl (by decide) rfl
    refine E_app0 (i := 6) rfl (news := bools ms) U40 zr4 sz4 by4 rfl rfl OM (by rw [bools_len]; omega) (by have hsr := Src.r1 hC; rw [bools_len] at hsr; exact hsr) bools_one (by omega) (Pr' := fun i => i = b8 ∨ loZ ≤ i) (fun i hi => .inl hi) (by first | omega | (dsimp only; omega)) ?_
    intro A13 cap13 w13 X13 m13
    obtain ⟨hiZ, hhiZ⟩ : ∃ x, x = w13.heap.size := ⟨_, rfl⟩
    replace OM := (X13.lt).weak (Pr' := (fun i => (i = b8 ∨ loZ ≤ i) ∧ i < hiZ)) (fun i hi => ⟨hi.1, by have h9 := hi.2; omega⟩)
    clear X13
    replace G := G.abv m13
    replace GS5 := GS5.abv m13
    replace hA := hA0.grow G
    replace hB := hB0.grow G
    replace hC := hC0.grow G
    replace OX := OX.md m13
    replace B1 := B1.md m13
    replace B2 := B2.md m13
    replace B12 := B12.md m13
    have zm13 := m13.size
    refine ⟨GS5, ?_⟩
    obtain ⟨AM, rfl⟩ : ∃ x, x = A13 := ⟨_, rfl⟩
    obtain ⟨cM, rfl⟩ : ∃ x, x = cap13 := ⟨_, rfl⟩
    refine Dq (i := 9) rfl GS5 (fun _ _ => Y_build (cs := [_, _, _, _]) zr42 pc42 rfl rfl) ?_
    refine D_1 (i := 11) (by kernel_rfl) ?_
    refine E_stM (pre := []) (old := [_, _, _, _]) (post := []) (vs := [_, _, _, _]) (i := 11) rfl sz42 rfl rfl rfl (by first | rfl | assumption) B12 rfl rfl ?_
    intro w14 m14 X14
    replace B12 := Blk.eq (ys := [_, _, _, _]) X14 rfl
    clear X14
    replace G := G.abv m14
    replace GS5 := GS5.abv m14
    replace hA := hA0.grow G
    replace hB := hB0.grow G
    replace hC := hC0.grow G
    replace OX := OX.md m14
    replace OM := OM.md m14
    replace B1 := B1.md m14
    replace B2 := B2.md m14
    have zm14 := m14.size
    refine ⟨GS5, ?_⟩
    refine D_en (by kernel_rfl) rfl rfl ?_
    exact ⟨rfl, _, _, _, _, _, _, _, _, _, _, _, _, _, _, rfl, rfl, rfl, rfl, g5.grow GS5, B12, OX, OM, ⟨by omega, by omega, by omega, by omega, by omega, by omega, by omega, by omega, by omega⟩⟩
   refine E_alloc (cs := [_, _, _, _]) rfl zr42 rfl (fun b15 w15 fb15 g15 B15 => ⟨GS5.grow g15, ?_⟩)
   have lb15 := B15.lt
   replace hA := hA.grow g15
   replace hB := hB.grow g15
   replace hC := hC.grow g15
   replace OX := OX.grow g15
   replace G := G.grow g15
   replace GS5 := GS5.grow g15
   replace B1 := B1.grow g15
   replace B2 := B2.grow g15
   have zg15 := g15.size
   refine D_1 (i := 3) (by kernel_rfl) ?_
   refine E_bs0 (i := 3) rfl U40 sz4 ?_
   intro b16 w16 fb16 g16 B16
   refine ⟨GS5.grow g16, ?_⟩
   have lb16 := B16.lt
   replace hA := hA.grow g16
   replace hB := hB.grow g16
   replace hC := hC.grow g16
   replace OX := OX.grow g16
   replace G := G.grow g16
   replace GS5 := GS5.grow g16
   replace B1 := B1.grow g16
   replace B2 := B2.grow g16
   replace B15 := B15.grow g16
   have zg16 := g16.size
   refine D_1 (i := 6) (by kernel_rfl) ?_
   obtain ⟨loZ, hloZ⟩ : ∃ x, x = w16.heap.size := ⟨_, rfl⟩
   have OM : OW (fun i => i = b16) w16 4 1 (some ⟨b16, 0, none⟩) 0 0 [] := OW.of_blk B16 rfl (by decide) rfl
   refine E_app0 (i := 6) rfl (news := bools ms) U40 zr4 sz4 by4 rfl rfl OM (by rw [bools_len]; omega) (by have hsr := Src.r1 hC; rw [bools_len] at hsr; exact hsr) bools_one (by omega) (Pr' := fun i => i = b16 ∨ loZ ≤ i) (fun i hi => .inl hi) (by first | omega | (dsimp only; omega)) ?_
   intro A17 cap17 w17 X17 m17
   obtain ⟨hiZ, hhiZ⟩ : ∃ x, x = w17.heap.size := ⟨_, rfl⟩
   replace OM := (X17.lt).weak (Pr' := (fun i => (i = b16 ∨ loZ ≤ i) ∧ i < hiZ)) (fun i hi => ⟨hi.1, by have h9 := hi.2; omega⟩)
   clear X17
   replace G := G.abv m17
   replace GS5 := GS5.abv m17
   replace hA := hA0.grow G
   replace hB := hB0.grow G
   replace hC := hC0.grow G
   replace OX := OX.md m17
   replace B1 := B1.md m17
   replace B2 := B2.md m17
   replace B15 := B15.md m17
   have zm17 := m17.size
   refine ⟨GS5, ?_⟩
   obtain ⟨AM, rfl⟩ : ∃ x, x = A17 := ⟨_, rfl⟩
   obtain ⟨cM, rfl⟩ : ∃ x, x = cap17 := ⟨_, rfl⟩
   refine Dq (i := 9) rfl GS5 (fun _ _ => Y_build (cs := [_, _, _, _]) zr42 pc42 rfl rfl) ?_
   refine D_1 (i := 11) (by kernel_rfl) ?_
   refine E_stM (pre := []) (old := [_, _, _, _]) (post := []) (vs := [_, _, _, _]) (i := 11) rfl sz42 rfl rfl rfl (by first | rfl | assumption) B15 rfl rfl ?_
   intro w18 m18 X18
   replace B15 := Blk.eq (ys := [_, _, _, _]) X18 rfl
   clear X18
   replace G := G.abv m18
   replace GS5 := GS5.abv m18
   replace hA := hA0.grow G
   replace hB := hB0.grow G
   replace hC := hC0.grow G
   replace OX := OX.md m18
   replace OM := OM.md m18
   replace B1 := B1.md m18
   replace B2 := B2.md m18
   have zm18 := m18.size
   refine ⟨GS5, ?_⟩
   refine D_en (by kernel_rfl) rfl rfl ?_
   exact ⟨rfl, _, _, _, _, _, _, _, _, _, _, _, _, _, _, rfl, rfl, rfl, rfl, g5.grow GS5, B15, OX, OM, ⟨by omega, by omega, by omega, by omega, by omega, by omega, by omega, by omega, by omega⟩⟩
  ·
   refine E_bs0 (i := 3) rfl U40 sz4 ?_
   intro b19 w19 fb19 g19 B19
   refine ⟨GS5.grow g19, ?_⟩
   have lb19 := B19.lt
   replace hA := hA.grow g19
   replace hB := hB.grow g19
   replace hC := hC.grow g19
   replace G := G.grow g19
   replace GS5 := GS5.grow g19
   replace B1 := B1.grow g19
   replace B2 := B2.grow g19
   have zg19 := g19.size
   refine D_2 (i := 2) (j := 10) (by kernel_rfl) ?_ ?_
   ·
    refine E_call rfl rfl en25 (spec_l7Copy2_c _ _ _ h _ _ _ hA hB (by omega)) ?_
    rintro v20 w20 ⟨A20, B20, n120, c120, n220, c220, rs20, rfl, hn120, hn220, O20, g20⟩
    replace hA := hA.grow g20
    replace hB := hB.grow g20
    replace hC := hC.grow g20
    replace G := G.grow g20
    replace GS5 := GS5.grow g20
    replace B1 := B1.grow g20
    replace B2 := B2.grow g20
    replace B19 := B19.grow g20
    have zg20 := g20.size
    subst hn120
    subst hn220
    obtain ⟨AH, rfl⟩ : ∃ x, x = A20 := ⟨_, rfl⟩
    obtain ⟨BH, rfl⟩ : ∃ x, x = B20 := ⟨_, rfl⟩
    obtain ⟨cH, rfl⟩ : ∃ x, x = c120 := ⟨_, rfl⟩
    obtain ⟨dH, rfl⟩ : ∃ x, x = c220 := ⟨_, rfl⟩
    obtain ⟨rsH, rfl⟩ : ∃ x, x = rs20 := ⟨_, rfl⟩
    obtain ⟨loX, hloX⟩ : ∃ x, x = w19.heap.size := ⟨_, rfl⟩
    obtain ⟨hiX, hhiX⟩ : ∃ x, x = w20.heap.size := ⟨_, rfl⟩
    have OX := (O20.lt).weak (Pr' := fun i => loX ≤ i ∧ i < hiX) (fun i hi => by first | omega | (dsimp only at hi ⊢; omega))
    refine ⟨GS5, ?_⟩
    refine D_2 (i := 6) (j := 10) (by kernel_rfl) ?_ ?_
    ·
     obtain ⟨loZ, hloZ⟩ : ∃ x, x = w20.heap.size := ⟨_, rfl⟩
     have OM : OW (fun i => i = b19) w20 4 1 (some ⟨b19, 0, none⟩) 0 0 [] := OW.of_blk B19 rfl (by decide) rfl
     refine E_app0 (i := 6) rfl (news := bools ms) U40 zr4 sz4 by4 rfl rfl OM (by rw [bools_len]; omega) (by have hsr := Src.r1 hC; rw [bools_len] at hsr; exact hsr) bools_one (by omega) (Pr' := fun i => i = b19 ∨ loZ ≤ i) (fun i hi => .inl hi) (by first | omega | (dsimp only; omega)) ?_
     intro A21 cap21 w21 X21 m21
     obtain ⟨hiZ, hhiZ⟩ : ∃ x, x = w21.heap.size := ⟨_, rfl⟩
     replace OM := (X21.lt).weak (Pr' := (fun i => (i = b19 ∨ loZ ≤ i) ∧ i < hiZ)) (fun i hi => ⟨hi.1, by have h9 := hi.2; omega⟩)
     clear X21
     replace G := G.abv m21
     replace GS5 := GS5.abv m21
     replace hA := hA0.grow G
     replace hB := hB0.grow G
     replace hC := hC0.grow G
     replace OX := OX.md m21
     replace B1 := B1.md m21
     replace B2 := B2.md m21
     have zm21 := m21.size
     refine ⟨GS5, ?_⟩
     obtain ⟨AM, rfl⟩ : ∃ x, x = A21 := ⟨_, rfl⟩
     obtain ⟨cM, rfl⟩ : ∃ x, x = cap21 := ⟨_, rfl⟩
     refine Dq (i := 9) rfl GS5 (fun _ _ => Y_build (cs := [_, _, _, _]) zr42 pc42 rfl rfl) ?_
     refine D_1 (i := 10) (by kernel_rfl) ?_
     refine E_alloc (cs := [_, _, _, _]) rfl zr42 rfl (fun b22 w22 fb22 g22 B22 => ⟨GS5.grow g22, ?_⟩)
     have lb22 := B22.lt
     replace hA := hA.grow g22
     replace hB := hB.grow g22
     replace hC := hC.grow g22
     replace OX := OX.grow g22
     replace OM := OM.grow g22
     replace G := G.grow g22
     replace GS5 := GS5.grow g22
     replace B1 := B1.grow g22
     replace B2 := B2.grow g22
     have zg22 := g22.size
     refine D_1 (i := 11) (by kernel_rfl) ?_
     refine E_stM (pre := []) (old := [_, _, _, _]) (post := []) (vs := [_, _, _, _]) (i := 11) rfl sz42 rfl rfl rfl (by first | rfl | assumption) B22 rfl rfl ?_
     intro w23 m23 X23
     replace B22 := Blk.eq (ys := [_, _, _, _]) X23 rfl
     clear X23
     replace G := G.abv m23
     replace GS5 := GS5.abv m23
     replace hA := hA0.grow G
     replace hB := hB0.grow G
     replace hC := hC0.grow G
     replace OX := OX.md m23
     replace OM := OM.md m23
     replace B1 := B1.md m23
     replace B2 := B2.md m23
     have zm23 := m23.size
     refine ⟨GS5, ?_⟩
     refine D_en (by kernel_rfl) rfl rfl ?_
     exact ⟨rfl, _, _, _, _, _, _, _, _, _, _, _, _, _, _, rfl, rfl, rfl, rfl, g5.grow GS5, B22, OX, OM, ⟨by omega, by omega, by omega, by omega, by omega, by omega, by omega, by omega, by omega⟩⟩
    refine E_alloc (cs := [_, _, _, _]) rfl zr42 rfl (fun b24 w24 fb24 g24 B24 => ⟨GS5.grow g24, ?_⟩)
    have lb24 := B24.lt
    replace hA := hA.grow g24
    replace hB := hB.grow g24
    replace hC := hC.grow g24
    replace OX := OX.grow g24
    replace G := G.grow g24
    replace GS5 := GS5.grow g24
    replace B1 := B1.grow g24
    replace B2 := B2.grow g24
    replace B19 := B19.grow g24
    have zg24 := g24.size
    refine D_1 (i := 6) (by kernel_rfl) ?_
    obtain ⟨loZ, hloZ⟩ : ∃ x, x = w24.heap.size := ⟨_, rfl⟩
    have OM : OW (fun i => i = b19) w24 4 1 (some ⟨b19, 0, none⟩) 0 0 [] := OW.of_blk B19 rfl (by decide) rfl
    refine E_app0 (i := 6) rfl (news := bools ms) U40 zr4 sz4 by4 rfl rfl OM (by rw [bools_len]; omega) (by have hsr := Src.r1 hC; rw [bools_len] at hsr; exact hsr) bools_one (by omega) (Pr' := fun i => i = b19 ∨ loZ ≤ i) (fun i hi => .inl hi) (by first | omega | (dsimp only; omega)) ?_
    intro A25 cap25 w25 X25 m25
    obtain ⟨hiZ, hhiZ⟩ : ∃ x, x = w25.heap.size := ⟨_, rfl⟩
    replace OM := (X25.lt).weak (Pr' := (fun i => (i = b19 ∨ loZ ≤ i) ∧ i < hiZ)) (fun i hi => ⟨hi.1, by have h9 := hi.2; omega⟩)
    clear X25
    replace G := G.abv m25
    replace GS5 := GS5.abv m25
    replace hA := hA0.grow G
    replace hB := hB0.grow G
    replace hC := hC0.grow G
    replace OX := OX.md m25
    replace B1 := B1.md m25
    replace B2 := B2.md m25
    replace B24 := B24.md m25
    have zm25 := m25.size
    refine ⟨GS5, ?_⟩
    obtain ⟨AM, rfl⟩ : ∃ x, x = A25 := ⟨_, rfl⟩
    obtain ⟨cM, rfl⟩ : ∃ x, x = cap25 := ⟨_, rfl⟩
    refine Dq (i := 9) rfl GS5 (fun _ _ => Y_build (cs := [_, _, _, _]) zr42 pc42 rfl rfl) ?_
    refine D_1 (i := 11) (by kernel_rfl) ?_
    refine E_stM (pre := []) (old := [_, _, _, _]) (post := []) (vs := [_, _, _, _]) (i := 11) rfl sz42 rfl rfl rfl (by first | rfl | assumption) B24 rfl rfl ?_
    intro w26 m26 X26
    replace B24 := Blk.eq (ys := [_, _, _, _]) X26 rfl
    clear X26
    replace G := G.abv m26
    replace GS5 := GS5.abv m26
    replace hA := hA0.grow G
    replace hB := hB0.grow G
    replace hC := hC0.grow G
    replace OX := OX.md m26
    replace OM := OM.md m26
    replace B1 := B1.md m26
    replace B2 := B2.md m26
    have zm26 := m26.size
    refine ⟨GS5, ?_⟩
    refine D_en (by kernel_rfl) rfl rfl ?_
    exact ⟨rfl, _, _, _, _, _, _, _, _, _, _, _, _, _, _, rfl, rfl, rfl, rfl, g5.grow GS5, B24, OX, OM, ⟨by omega, by omega, by omega, by omega, by omega, by omega, by omega, by omega, by omega⟩⟩
   refine E_alloc (cs := [_, _, _, _]) rfl zr42 rfl (fun b27 w27 fb27 g27 B27 => ⟨GS5.grow g27, ?_⟩)
   have lb27 := B27.lt
   replace hA := hA.grow g27
   replace hB := hB.grow g27
   replace hC := hC.grow g27
   replace G := G.grow g27
   replace GS5 := GS5.grow g27
   replace B1 := B1.grow g27
   replace B2 := B2.grow g27
   replace B19 := B19.grow g27
   have zg27 := g27.size
   refine D_1 (i := 2) (by kernel_rfl) ?_
   refine E_call rfl rfl en25 (spec_l7Copy2_c _ _ _ h _ _ _ hA hB (by omega)) ?_
   rintro v28 w28 ⟨A28, B28, n128, c128, n228, c228, rs28, rfl, hn128, hn228, O28, g28⟩
   replace hA := hA.grow g28
   replace hB := hB.grow g28
   replace hC := hC.grow g28
   replace G := G.grow g28
   replace GS5 := GS5.grow g28
   replace B1 := B1.grow g28
   replace B2 := B2.grow g28
   replace B19 := B19.grow g28
   replace B27 := B27.grow g28
   have zg28 := g28.size
   subst hn128
   subst hn228
   obtain ⟨AH, rfl⟩ : ∃ x, x = A28 := ⟨_, rfl⟩
   obtain ⟨BH, rfl⟩ : ∃ x, x = B28 := ⟨_, rfl⟩
   obtain ⟨cH, rfl⟩ : ∃ x, x = c128 := ⟨_, rfl⟩
   obtain ⟨dH, rfl⟩ : ∃ x, x = c228 := ⟨_, rfl⟩
   obtain ⟨rsH, rfl⟩ : ∃ x, x = rs28 := ⟨_, rfl⟩
   obtain ⟨loX, hloX⟩ : ∃ x, x = w27.heap.size := ⟨_, rfl⟩
   obtain ⟨hiX, hhiX⟩ : ∃ x, x = w28.heap.size := ⟨_, rfl⟩
   have OX := (O28.lt).weak (Pr' := fun i => loX ≤ i ∧ i < hiX) (fun i hi => by first | omega | (dsimp only at hi ⊢; omega))
   refine ⟨GS5, ?_⟩
   refine D_1 (i := 6) (by kernel_rfl) ?_
   obtain ⟨loZ, hloZ⟩ : ∃ x, x = w28.heap.size := ⟨_, rfl⟩
   have OM : OW (fun i => i = b19) w28 4 1 (some ⟨b19, 0, none⟩) 0 0 [] := OW.of_blk B19 rfl (by decide) rfl
   refine E_app0 (i := 6) rfl (news := bools ms) U40 zr4 sz4 by4 rfl rfl OM (by rw [bools_len]; omega) (by have hsr := Src.r1 hC; rw [bools_len] at hsr; exact hsr) bools_one (by omega) (Pr' := fun i => i = b19 ∨ loZ ≤ i) (fun i hi => .inl hi) (by first | omega | (dsimp only; omega)) ?_
   intro A29 cap29 w29 X29 m29
   obtain ⟨hiZ, hhiZ⟩ : ∃ x, x = w29.heap.size := ⟨_, rfl⟩
   replace OM := (X29.lt).weak (Pr' := (fun i => (i = b19 ∨ loZ ≤ i) ∧ i < hiZ)) (fun i hi => ⟨hi.1, by have h9 := hi.2; omega⟩)
   clear X29
   replace G := G.abv m29
   replace GS5 := GS5.abv m29
   replace hA := hA0.grow G
   replace hB := hB0.grow G
   replace hC := hC0.grow G
   replace OX := OX.md m29
   replace B1 := B1.md m29
   replace B2 := B2.md m29
   replace B27 := B27.md m29
   have zm29 := m29.size
   refine ⟨GS5, ?_⟩
   obtain ⟨AM, rfl⟩ : ∃ x, x = A29 := ⟨_, rfl⟩
   obtain ⟨cM, rfl⟩ : ∃ x, x = cap29 := ⟨_, rfl⟩
   refine Dq (i := 9) rfl GS5 (fun _ _ => Y_build (cs := [_, _, _, _]) zr42 pc42 rfl rfl) ?_
   refine D_1 (i := 11) (by kernel_rfl) ?_
   refine E_stM (pre := []) (old := [_, _, _, _]) (post := []) (vs := [_, _, _, _]) (i := 11) rfl sz42 rfl rfl rfl (by first | rfl | assumption) B27 rfl rfl ?_
   intro w30 m30 X30
   replace B27 := Blk.eq (ys := [_, _, _, _]) X30 rfl
   clear X30
   replace G := G.abv m30
   replace GS5 := GS5.abv m30
   replace hA := hA0.grow G
   replace hB := hB0.grow G
   replace hC := hC0.grow G
   replace OX := OX.md m30
   replace OM := OM.md m30
   replace B1 := B1.md m30
   replace B2 := B2.md m30
   have zm30 := m30.size
   refine ⟨GS5, ?_⟩
   refine D_en (by kernel_rfl) rfl rfl ?_
   exact ⟨rfl, _, _, _, _, _, _, _, _, _, _, _, _, _, _, rfl, rfl, rfl, rfl, g5.grow GS5, B27, OX, OM, ⟨by omega, by omega, by omega, by omega, by omega, by omega, by omega, by omega, by omega⟩⟩
  refine E_alloc (cs := [_, _, _, _]) rfl zr42 rfl (fun b31 w31 fb31 g31 B31 => ⟨GS5.grow g31, ?_⟩)
  have lb31 := B31.lt
  replace hA := hA.grow g31
  replace hB := hB.grow g31
  replace hC := hC.grow g31
  replace G := G.grow g31
  replace GS5 := GS5.grow g31
  replace B1 := B1.grow g31
  replace B2 := B2.grow g31
  have zg31 := g31.size
  refine D_2 (i := 2) (j := 3) (by kernel_rfl) ?_ ?_
  ·
   refine E_call rfl rfl en25 (spec_l7Copy2_c _ _ _ h _ _ _ hA hB (by omega)) ?_
   rintro v32 w32 ⟨A32, B32, n132, c132, n232, c232, rs32, rfl, hn132, hn232, O32, g32⟩
   replace hA := hA.grow g32
   replace hB := hB.grow g32
   replace hC := hC.grow g32
   replace G := G.grow g32
   replace GS5 := GS5.grow g32
   replace B1 := B1.grow g32
   replace B2 := B2.grow g32
   replace B31 := B31.grow g32
   have zg32 := g32.size
   subst hn132
   subst hn232
   obtain ⟨AH, rfl⟩ : ∃ x, x = A32 := ⟨_, rfl⟩
   obtain ⟨BH, rfl⟩ : ∃ x, x = B32 := ⟨_, rfl⟩
   obtain ⟨cH, rfl⟩ : ∃ x, x = c132 := ⟨_, rfl⟩
   obtain ⟨dH, rfl⟩ : ∃ x, x = c232 := ⟨_, rfl⟩
   obtain ⟨rsH, rfl⟩ : ∃ x, x = rs32 := ⟨_, rfl⟩
   obtain ⟨loX, hloX⟩ : ∃ x, x = w31.heap.size := ⟨_, rfl⟩
   obtain ⟨hiX, hhiX⟩ : ∃ x, x = w32.heap.size := ⟨_, rfl⟩
   have OX := (O32.lt).weak (Pr' := fun i => loX ≤ i ∧ i < hiX) (fun i hi => by first | omega | (dsimp only at hi ⊢; omega))
   refine ⟨GS5, ?_⟩
   refine D_1 (i := 3) (by kernel_rfl) ?_
   refine E_bs0 (i := 3) rfl U40 sz4 ?_
   intro b33 w33 fb33 g33 B33
   refine ⟨GS5.grow g33, ?_⟩
   have lb33 := B33.lt
   replace hA := hA.grow g33
   replace hB := hB.grow g33
   replace hC := hC.grow g33
   replace OX := OX.grow g33
   replace G := G.grow g33
   replace GS5 := GS5.grow g33
   replace B1 := B1.grow g33
   replace B2 := B2.grow g33
   replace B31 := B31.grow g33
   have zg33 := g33.size
   refine D_1 (i := 6) (by kernel_rfl) ?_
   obtain ⟨loZ, hloZ⟩ : ∃ x, x = w33.heap.size := ⟨_, rfl⟩
   have OM : OW (fun i => i = b33) w33 4 1 (some ⟨b33, 0, none⟩) 0 0 [] := OW.of_blk B33 rfl (by decide) rfl
   refine E_app0 (i := 6) rfl (news := bools ms) U40 zr4 sz4 by4 rfl rfl OM (by rw [bools_len]; omega) (by have hsr := Src.r1 hC; rw [bools_len] at hsr; exact hsr) bools_one (by omega) (Pr' := fun i => i = b33 ∨ loZ ≤ i) (fun i hi => .inl hi) (by first | omega | (dsimp only; omega)) ?_
   intro A34 cap34 w34 X34 m34
   obtain ⟨hiZ, hhiZ⟩ : ∃ x, x = w34.heap.size := ⟨_, rfl⟩
   replace OM := (X34.lt).weak (Pr' := (fun i => (i = b33 ∨ loZ ≤ i) ∧ i < hiZ)) (fun i hi => ⟨hi.1, by have h9 := hi.2; omega⟩)
   clear X34
   replace G := G.abv m34
   replace GS5 := GS5.abv m34
   replace hA := hA0.grow G
   replace hB := hB0.grow G
   replace hC := hC0.grow G
   replace OX := OX.md m34
   replace B1 := B1.md m34
   replace B2 := B2.md m34
   replace B31 := B31.md m34
   have zm34 := m34.size
   refine ⟨GS5, ?_⟩
   obtain ⟨AM, rfl⟩ : ∃ x, x = A34 := ⟨_, rfl⟩
   obtain ⟨cM, rfl⟩ : ∃ x, x = cap34 := ⟨_, rfl⟩
   refine Dq (i := 9) rfl GS5 (fun _ _ => Y_build (cs := [_, _, _, _]) zr42 pc42 rfl rfl) ?_
   refine D_1 (i := 11) (by kernel_rfl) ?_
   refine E_stM (pre := []) (old := [_, _, _, _]) (post := []) (vs := [_, _, _, _]) (i := 11) rfl sz42 rfl rfl rfl (by first | rfl | assumption) B31 rfl rfl ?_
   intro w35 m35 X35
   replace B31 := Blk.eq (ys := [_, _, _, _]) X35 rfl
   clear X35
   replace G := G.abv m35
   replace GS5 := GS5.abv m35
   replace hA := hA0.grow G
   replace hB := hB0.grow G
   replace hC := hC0.grow G
   replace OX := OX.md m35
   replace OM := OM.md m35
   replace B1 := B1.md m35
   replace B2 := B2.md m35
   have zm35 := m35.size
   refine ⟨GS5, ?_⟩
   refine D_en (by kernel_rfl) rfl rfl ?_
   exact ⟨rfl, _, _, _, _, _, _, _, _, _, _, _, _, _, _, rfl, rfl, rfl, rfl, g5.grow GS5, B31, OX, OM, ⟨by omega, by omega, by omega, by omega, by omega, by omega, by omega, by omega, by omega⟩⟩
  refine E_bs0 (i := 3) rfl U40 sz4 ?_
  intro b36 w36 fb36 g36 B36
  refine ⟨GS5.grow g36, ?_⟩
  have lb36 := B36.lt
  replace hA := hA.grow g36
  replace hB := hB.grow g36
  replace hC := hC.grow g36
  replace G := G.grow g36
  replace GS5 := GS5.grow g36
  replace B1 := B1.grow g36
  replace B2 := B2.grow g36
  replace B31 := B31.grow g36
  have zg36 := g36.size
  refine D_1 (i := 2) (by kernel_rfl) ?_
  refine E_call rfl rfl en25 (spec_l7Copy2_c _ _ _ h _ _ _ hA hB (by omega)) ?_
  rintro v37 w37 ⟨A37, B37, n137, c137, n237, c237, rs37, rfl, hn137, hn237, O37, g37⟩
  replace hA := hA.grow g37
  replace hB := hB.grow g37
  replace hC := hC.grow g37
  replace G := G.grow g37
  replace GS5 := GS5.grow g37
  replace B1 := B1.grow g37
  replace B2 := B2.grow g37
  replace B31 := B31.grow g37
  replace B36 := B36.grow g37
  have zg37 := g37.size
  subst hn137
  subst hn237
  obtain ⟨AH, rfl⟩ : ∃ x, x = A37 := ⟨_, rfl⟩
  obtain ⟨BH, rfl⟩ : ∃ x, x = B37 := ⟨_, rfl⟩
  obtain ⟨cH, rfl⟩ : ∃ x, x = c137 := ⟨_, rfl⟩
  obtain ⟨dH, rfl⟩ : ∃ x, x = c237 := ⟨_, rfl⟩
  obtain ⟨rsH, rfl⟩ : ∃ x, x = rs37 := ⟨_, rfl⟩
  obtain ⟨loX, hloX⟩ : ∃ x, x = w36.heap.size := ⟨_, rfl⟩
  obtain ⟨hiX, hhiX⟩ : ∃ x, x = w37.heap.size := ⟨_, rfl⟩
  have OX := (O37.lt).weak (Pr' := fun i => loX ≤ i ∧ i < hiX) (fun i hi => by first | omega | (dsimp only at hi ⊢; omega))
  refine ⟨GS5, ?_⟩
  refine D_1 (i := 6) (by kernel_rfl) ?_
  obtain ⟨loZ, hloZ⟩ : ∃ x, x = w37.heap.size := ⟨_, rfl⟩
  have OM : OW (fun i => i = b36) w37 4 1 (some ⟨b36, 0, none⟩) 0 0 [] := OW.of_blk B36 rfl (by decide) rfl
  refine E_app0 (i := 6) rfl (news := bools ms) U40 zr4 sz4 by4 rfl rfl OM (by rw [bools_len]; omega) (by have hsr := Src.r1 hC; rw [bools_len] at hsr; exact hsr) bools_one (by omega) (Pr' := fun i => i = b36 ∨ loZ ≤ i) (fun i hi => .inl hi) (by first | omega | (dsimp only; omega)) ?_
  intro A38 cap38 w38 X38 m38
  obtain ⟨hiZ, hhiZ⟩ : ∃ x, x = w38.heap.size := ⟨_, rfl⟩
  replace OM := (X38.lt).weak (Pr' := (fun i => (i = b36 ∨ loZ ≤ i) ∧ i < hiZ)) (fun i hi => ⟨hi.1, by have h9 := hi.2; omega⟩)
  clear X38
  replace G := G.abv m38
  replace GS5 := GS5.abv m38
  replace hA := hA0.grow G
  replace hB := hB0.grow G
  replace hC := hC0.grow G
  replace OX := OX.md m38
  replace B1 := B1.md m38
  replace B2 := B2.md m38
  replace B31 := B31.md m38
  have zm38 := m38.size
  refine ⟨GS5, ?_⟩
  obtain ⟨AM, rfl⟩ : ∃ x, x = A38 := ⟨_, rfl⟩
  obtain ⟨cM, rfl⟩ : ∃ x, x = cap38 := ⟨_, rfl⟩
  refine Dq (i := 9) rfl GS5 (fun _ _ => Y_build (cs := [_, _, _, _]) zr42 pc42 rfl rfl) ?_
  refine D_1 (i := 11) (by kernel_rfl) ?_
  refine E_stM (pre := []) (old := [_, _, _, _]) (post := []) (vs := [_, _, _, _]) (i := 11) rfl sz42 rfl rfl rfl (by first | rfl | assumption) B31 rfl rfl ?_
  intro w39 m39 X39
  replace B31 := Blk.eq (ys := [_, _, _, _]) X39 rfl
  clear X39
  replace G := G.abv m39
  replace GS5 := GS5.abv m39
  replace hA := hA0.grow G
  replace hB := hB0.grow G
  replace hC := hC0.grow G
  replace OX := OX.md m39
  replace OM := OM.md m39
  replace B1 := B1.md m39
  replace B2 := B2.md m39
  have zm39 := m39.size
  refine ⟨GS5, ?_⟩
  refine D_en (by kernel_rfl) rfl rfl ?_
  exact ⟨rfl, _, _, _, _, _, _, _, _, _, _, _, _, _, _, rfl, rfl, rfl, rfl, g5.grow GS5, B31, OX, OM, ⟨by omega, by omega, by omega, by omega, by omega, by omega, by omega, by omega, by omega⟩⟩
 rintro a' w6 ⟨b904, b916, loX, hiX, loZ, hiZ, AH, BH, AM, cH, dH, cM, rsH, L, rfl, hL, hs2, hs4, gJ6, B904, OX, OM, hq9⟩
 obtain ⟨x, rfl⟩ : ∃ x : Nat → Value, L = (x 0 :: x 1 :: (.pointer (some ⟨b2, 0, none⟩)) :: x 3 :: (.pointer (some ⟨b904, 0, none⟩)) :: x 5 :: x 6 :: x 7 :: x 8 :: x 9 :: x 10 :: x 11 :: x 12 :: x 13 :: x 14 :: x 15 :: x 16 :: x 17 :: x 18 :: x 19 :: x 20 :: x 21 :: x 22 :: x 23 :: x 24 :: x 25 :: x 26 :: x 27 :: x 28 :: x 29 :: x 30 :: x 31 :: x 32 :: x 33 :: x 34 :: x 35 :: x 36 :: x 37 :: x 38 :: x 39 :: x 40 :: x 41 :: x 42 :: x 43 :: x 44 :: x 45 :: x 46 :: x 47 :: x 48 :: x 49 :: x 50 :: x 51 :: x 52 :: x 53 :: x 54 :: x 55 :: x 56 :: x 57 :: x 58 :: x 59 :: x 60 :: x 61 :: x 62 :: x 63 :: x 64 :: x 65 :: x 66 :: x 67 :: x 68 :: x 69 :: x 70 :: x 71 :: x 72 :: x 73 :: x 74 :: x 75 :: x 76 :: x 77 :: x 78 :: x 79 :: x 80 :: x 81 :: x 82 :: x 83 :: x 84 :: x 85 :: x 86 :: x 87 :: x 88 :: x 89 :: x 90 :: x 91 :: x 92 :: x 93 :: x 94 :: x 95 :: x 96 :: x 97 :: x 98 :: x 99 :: x 100 :: x 101 :: x 102 :: x 103 :: x 104 :: x 105 :: x 106 :: x 107 :: x 108 :: []) := ⟨fun i => L.getD i undef, (slots_eta L 109 hL).trans (by show (L.getD 0 undef :: L.getD 1 undef :: L.getD 2 undef :: L.getD 3 undef :: L.getD 4 undef :: L.getD 5 undef :: L.getD 6 undef :: L.getD 7 undef :: L.getD 8 undef :: L.getD 9 undef :: L.getD 10 undef :: L.getD 11 undef :: L.getD 12 undef :: L.getD 13 undef :: L.getD 14 undef :: L.getD 15 undef :: L.getD 16 undef :: L.getD 17 undef :: L.getD 18 undef :: L.getD 19 undef :: L.getD 20 undef :: L.getD 21 undef :: L.getD 22 undef :: L.getD 23 undef :: L.getD 24 undef :: L.getD 25 undef :: L.getD 26 undef :: L.getD 27 undef :: L.getD 28 undef :: L.getD 29 undef :: L.getD 30 undef :: L.getD 31 undef :: L.getD 32 undef :: L.getD 33 undef :: L.getD 34 undef :: L.getD 35 undef :: L.getD 36 undef :: L.getD 37 undef :: L.getD 38 undef :: L.getD 39 undef :: L.getD 40 undef :: L.getD 41 undef :: L.getD 42 undef :: L.getD 43 undef :: L.getD 44 undef :: L.getD 45 undef :: L.getD 46 undef :: L.getD 47 undef :: L.getD 48 undef :: L.getD 49 undef :: L.getD 50 undef :: L.getD 51 undef :: L.getD 52 undef :: L.getD 53 undef :: L.getD 54 undef :: L.getD 55 undef :: L.getD 56 undef :: L.getD 57 undef :: L.getD 58 undef :: L.getD 59 undef :: L.getD 60 undef :: L.getD 61 undef :: L.getD 62 undef :: L.getD 63 undef :: L.getD 64 undef :: L.getD 65 undef :: L.getD 66 undef :: L.getD 67 undef :: L.getD 68 undef :: L.getD 69 undef :: L.getD 70 undef :: L.getD 71 undef :: L.getD 72 undef :: L.getD 73 undef :: L.getD 74 undef :: L.getD 75 undef :: L.getD 76 undef :: L.getD 77 undef :: L.getD 78 undef :: L.getD 79 undef :: L.getD 80 undef :: L.getD 81 undef :: L.getD 82 undef :: L.getD 83 undef :: L.getD 84 undef :: L.getD 85 undef :: L.getD 86 undef :: L.getD 87 undef :: L.getD 88 undef :: L.getD 89 undef :: L.getD 90 undef :: L.getD 91 undef :: L.getD 92 undef :: L.getD 93 undef :: L.getD 94 undef :: L.getD 95 undef :: L.getD 96 undef :: L.getD 97 undef :: L.getD 98 undef :: L.getD 99 undef :: L.getD 100 undef :: L.getD 101 undef :: L.getD 102 undef :: L.getD 103 undef :: L.getD 104 undef :: L.getD 105 undef :: L.getD 106 undef :: L.getD 107 undef :: L.getD 108 undef :: []) = _; rw [slot_d hs2, slot_d hs4])⟩
 clear hL hs2 hs4
 replace hA := hA.grow gJ6
 replace hB := hB.grow gJ6
 replace hC := hC.grow gJ6
 replace G := G.grow gJ6
 replace B1 := B1.grow gJ6
 replace B2 := B2.grow gJ6
 have zgJ6 := gJ6.size
 have lb904 := B904.lt
 obtain ⟨p1, p2, p3, p4, p5, p6, p7, p8, p9⟩ := hq9
 refine th_n (hK5 _ _ ?_)
 clear hK5 K5
 refine wp_seq_k fun K6 hK6 => ?_
 refine wp_block ?_
 go_loopw [5] (fun u5 wr => (∃ a : Nat, a ≤ ms.length ∧ Blk wr b904 42 [.slice AH h.cells.length cH, .slice BH h.roots.length dH, .slice AM ms.length cM, .int .i64 (a : Int)].toArray) ∧ Mod (fun i => i = b904) w6 wr) (fun u5 wr => ms.length - fldI wr b904 3)
 case atStart =>
  refine ⟨?_, Mod.refl _ _⟩
  exact ⟨a0, by omega, B904⟩
 case round =>
  obtain ⟨w40, rfl⟩ : ∃ x : World, x = wr := ⟨_, rfl⟩
  obtain ⟨hrel, g40⟩ := hrel
  clear B904
  replace G := G.abv g40
  replace hA := hA0.grow G
  replace hB := hB0.grow G
  replace hC := hC0.grow G
  replace OX := OX.md g40
  replace OM := OM.md g40
  replace B1 := B1.md g40
  replace B2 := B2.md g40
  have zg40 := g40.size
  obtain ⟨a, ha, B904⟩ := hrel
  have hfa := fldI_eq (i := 3) B904 rfl
  have GL40 := g40
  refine wp_seq_k fun K7 hK7 => ?_
  refine wp_seq_k fun K8 hK8 => ?_
  refine Sb 109 rfl ?_
  refine S_val (Y_field U42 rfl fz42_2 (by decide) rfl) ?_
  refine S_val (Y_load U3 rfl rfl (B904.at (by rfl))) ?_
  refine S_val (Y_field U42 rfl fz42_1 (by decide) rfl) ?_
  refine S_val (Y_load U40 rfl rfl (B904.at (by rfl))) ?_
  refine S_val (Y_len U40 rfl) ?_
  refine S_val (Y_lss rfl rfl) ?_
  refine S_nl rfl rfl ?_
  refine th_n (hK8 _ _ ?_)
  clear hK8 K8
  refine S_if rfl (fun hb2 => ?_) (fun hb2 => ?_)
  ·
   replace hb2 := nb_tt hb2
   have ha1 : a < ms.length := by omega
   obtain ⟨bS0, postS0, eS0, hpS0, _⟩ := OM.blk (bools_ne (by omega))
   subst eS0
   try dsimp only at hpS0
   refine wp_skip ?_
   refine th_n (hK7 _ _ ?_)
   clear hK7 K7
   refine wp_block ?_
   refine wp_seq_k fun K9 hK9 => ?_
   refine Sb 109 rfl ?_
   refine S_val (Y_field U42 rfl fz42_2 (by decide) rfl) ?_
   refine S_val (Y_load U3 rfl rfl (B904.at (by rfl))) ?_
   refine Sas rfl ?_
   refine S_nl rfl rfl ?_
   refine th_n (hK9 _ _ ?_)
   clear hK9 K9
   refine wp_seq_k fun K10 hK10 => ?_
   refine Sb 109 rfl ?_
   refine Smv rfl ?_
   refine S_val (Y_add (c := ((a + 1 : Nat) : Int)) rfl rfl (by omega) (by omega) (by omega)) ?_
   refine S_val (Y_field U42 rfl fz42_2 (by decide) rfl) ?_
   refine S_stM (pre := [_, _, _]) (old := [_]) (post := []) (vs := [_]) sz3 rfl rfl rfl (by first | rfl | assumption) B904 rfl rfl ?_
   intro w41 m41 X41
   replace B904 := Blk.eq (ys := [_, _, _, _]) X41 rfl
   clear X41
   replace G := G.abv m41
   replace GL40 := GL40.trn m41
   replace hA := hA0.grow G
   replace hB := hB0.grow G
   replace hC := hC0.grow G
   replace OX := OX.md m41
   replace OM := OM.md m41
   replace B1 := B1.md m41
   replace B2 := B2.md m41
   have zm41 := m41.size
   refine S_nl rfl rfl ?_
   refine th_n (hK10 _ _ ?_)
   clear hK10 K10
   refine wp_seq_k fun K11 hK11 => ?_
   refine wp_seq_k fun K12 hK12 => ?_
   refine Sb 109 rfl ?_
   refine S_val (Y_field U42 rfl fz42_1 (by decide) rfl) ?_
   refine S_val (Y_load U40 rfl rfl (B904.at (by rfl))) ?_
   refine Smv rfl ?_
   refine S_val (Y_index U40 sz4 rfl rfl (by first | assumption | omega)) ?_
   refine S_val (Y_load U4 rfl rfl (by obtain ⟨g9, o9, e9, _, h9⟩ := OM.r1.bool ha1; cases e9; exact h9)) ?_
   refine S_nl rfl rfl ?_
   refine th_n (hK12 _ _ ?_)
   clear hK12 K12
   refine S_if rfl (fun hb3 => ?_) (fun hb3 => ?_)
   ·
    first | with_reducible (replace hb3 := nb_nt hb3) | with_reducible (replace hb3 := nb_tt hb3) | with_reducible (replace hb3 := nb_bt hb3) | skip
    refine wp_exit ?_
    refine th_x ?_
    refine ib_e ?_
    refine th_n ?_
    go_roundw
    case rel =>
     refine ⟨?_, GL40⟩
     exact ⟨a + 1, by omega, B904⟩
    case measure =>
     rw [hfa, fldI_eq (i := 3) B904 rfl]
     omega
   first | with_reducible (replace hb3 := nb_nf hb3) | with_reducible (replace hb3 := nb_tf hb3) | with_reducible (replace hb3 := nb_bf hb3) | skip
   refine wp_skip ?_
   refine th_n (hK11 _ _ ?_)
   clear hK11 K11
   refine wp_seq_k fun K13 hK13 => ?_
   refine wp_seq_k fun K14 hK14 => ?_
   refine Sb 109 rfl ?_
   refine Sas rfl ?_
   refine S_nl rfl rfl ?_
   refine th_n (hK14 _ _ ?_)
   clear hK14 K14
   refine wp_block ?_
   go_loopw [6] (fun u6 wr => (∃ (i : Nat) (csJ : List LC) (rsJ : List (Option Addr × Nat)), u6 = .int .i64 i ∧ i ≤ h.cells.length ∧ csJ.length = h.cells.length ∧ Valid ⟨csJ, h.roots⟩ ∧ XH (fun i => loX ≤ i ∧ i < hiX) wr 50 3 AH BH ⟨csJ, h.roots⟩ rsJ cH dH) ∧ Mod (fun i => loX ≤ i ∧ i < hiX) w41 wr) (fun u6 wr => h.cells.length - (intOf u6).toNat)
   case atStart =>
    refine ⟨?_, Mod.refl _ _⟩
    exact ⟨0, h.cells, rsH, rfl, by omega, rfl, va, OX⟩
   case round =>
    obtain ⟨w42, rfl⟩ : ∃ x : World, x = wr := ⟨_, rfl⟩
    obtain ⟨hrel, g42⟩ := hrel
    clear OX
    replace G := G.abv g42
    first | replace GL40 := GL40.abv g42 | try clear GL40
    replace hA := hA0.grow G
    replace hB := hB0.grow G
    replace hC := hC0.grow G
    replace OM := OM.md g42
    replace B1 := B1.md g42
    replace B2 := B2.md g42
    replace B904 := B904.md g42
    have zg42 := g42.size
    obtain ⟨i2, csJ, rsJ, rfl, hi2, hlJ, vJ, OX⟩ := hrel
    have GL42 := g42
    refine wp_seq_k fun K15 hK15 => ?_
    refine wp_seq_k fun K16 hK16 => ?_
    refine Sb 109 rfl ?_
    refine Smv rfl ?_
    refine S_val (Y_field U42 rfl fz42_0 (by decide) rfl) ?_
    refine S_val (Y_field U26 rfl fz26_0 (by decide) rfl) ?_
    refine S_val (Y_load U23 rfl rfl (B904.at (by rfl))) ?_
    refine S_val (Y_len U23 rfl) ?_
    refine S_val (Y_lss rfl rfl) ?_
    refine S_nl rfl rfl ?_
    refine th_n (hK16 _ _ ?_)
    clear hK16 K16
    refine S_if rfl (fun hb4 => ?_) (fun hb4 => ?_)
    ·
     replace hb4 := nb_tt hb4
     have hi3 : i2 < h.cells.length := by omega
     refine wp_skip ?_
     refine th_n (hK15 _ _ ?_)
     clear hK15 K15
     refine wp_seq_k fun K17 hK17 => ?_
     refine wp_block ?_
     refine wp_seq_k fun K18 hK18 => ?_
     refine Sb 109 rfl ?_
     refine Sas rfl ?_
     refine S_nl rfl rfl ?_
     refine th_n (hK18 _ _ ?_)
     clear hK18 K18
     refine wp_block ?_
     go_loopw [7] (fun u7 wr => (∃ (j : Nat) (csJ : List LC) (rsJ : List (Option Addr × Nat)), u7 = .int .i64 j ∧ j ≤ 3 ∧ csJ.length = h.cells.length ∧ Valid ⟨csJ, h.roots⟩ ∧ XH (fun i => loX ≤ i ∧ i < hiX) wr 50 3 AH BH ⟨csJ, h.roots⟩ rsJ cH dH) ∧ Mod (fun i => loX ≤ i ∧ i < hiX) w42 wr) (fun u7 wr => 3 - (intOf u7).toNat)
     case atStart =>
      refine ⟨?_, Mod.refl _ _⟩
      exact ⟨0, csJ, rsJ, rfl, by omega, hlJ, vJ, OX⟩
     case round =>
      obtain ⟨w43, rfl⟩ : ∃ x : World, x = wr := ⟨_, rfl⟩
      obtain ⟨hrel, g43⟩ := hrel
      clear OX
      replace G := G.abv g43
      first | replace GL40 := GL40.abv g43 | try clear GL40
      replace GL42 := GL42.trn g43
      replace hA := hA0.grow G
      replace hB := hB0.grow G
      replace hC := hC0.grow G
      replace OM := OM.md g43
      replace B1 := B1.md g43
      replace B2 := B2.md g43
      replace B904 := B904.md g43
      have zg43 := g43.size
      clear vJ hlJ
      obtain ⟨j, csJ, rsJ, rfl, hj3, hlJ, vJ, OX⟩ := hrel
      obtain ⟨gC, RX, capX, eA, hpC, hrs, ccx, hRX, hRb⟩ := OX.cellAt hne (i := i2) (by show i2 < csJ.length; omega)
      subst eA
      try dsimp only at hpC hrs hRX hRb
      have GL43 := g43
      refine wp_seq_k fun K19 hK19 => ?_
      refine wp_seq_k fun K20 hK20 => ?_
      refine Sb 109 rfl ?_
      refine Smv rfl ?_
      refine S_val (Y_field U42 rfl fz42_0 (by decide) rfl) ?_
      refine S_val (Y_field U26 rfl fz26_0 (by decide) rfl) ?_
      refine S_val (Y_load U23 rfl rfl (B904.at (by rfl))) ?_
      refine Smv rfl ?_
      refine S_val (Y_index U23 sz50 rfl rfl (by first | assumption | omega)) ?_
      refine S_val (Y_field U50 rfl fz50_2 (by decide) rfl) ?_
      refine S_val (Y_load U24 rfl rfl (by first | assumption | exact ccx.at (by rfl) | exact B1.at (by rfl) | exact B2.at (by rfl) | exact B904.at (by rfl))) ?_
      refine S_val (Y_len U24 rfl) ?_
      refine S_val (Y_lss rfl rfl) ?_
      refine S_nl rfl rfl ?_
      refine th_n (hK20 _ _ ?_)
      clear hK20 K20
      refine S_if rfl (fun hb5 => ?_) (fun hb5 => ?_)
      ·
       replace hb5 := nb_tt hb5
       have hil : i2 < csJ.length := by omega
       have hr3 := vJ.refs3 (n := i2) hil
       try dsimp only at hr3
       have hj1 : j < csJ[i2].refs.length := Int.ofNat_lt.1 hb5
       obtain ⟨bX, eR, hpX, hXC⟩ := hRb (Nat.lt_of_le_of_lt (Nat.zero_le _) hj1)
       clear hRb
       subst eR
       try dsimp only at hpX
       obtain ⟨g5, o5, e5, hp5, hc5⟩ := hRX.int hj1
       cases e5
       obtain ⟨g6, o6, e6, hp6, hc6⟩ := OM.r1.bool (k := i2) (by omega)
       cases e6
       refine wp_skip ?_
       refine th_n (hK19 _ _ ?_)
       clear hK19 K19
       refine wp_seq_k fun K21 hK21 => ?_
       refine wp_block ?_
       refine wp_seq_k fun K22 hK22 => ?_
       refine Sb 109 rfl ?_
       refine S_val (Y_field U42 rfl fz42_0 (by decide) rfl) ?_
       refine S_val (Y_field U26 rfl fz26_0 (by decide) rfl) ?_
       refine S_val (Y_load U23 rfl rfl (B904.at (by rfl))) ?_
       refine Smv rfl ?_
       refine S_val (Y_index U23 sz50 rfl rfl (by first | assumption | omega)) ?_
       refine S_val (Y_field U50 rfl fz50_2 (by decide) rfl) ?_
       refine S_val (Y_load U24 rfl rfl (by first | assumption | exact ccx.at (by rfl) | exact B1.at (by rfl) | exact B2.at (by rfl) | exact B904.at (by rfl))) ?_
       refine Smv rfl ?_
       refine S_val (Y_index U24 sz3 rfl rfl (by first | assumption | omega)) ?_
       refine S_val (Y_load U3 rfl rfl (by first | assumption | exact ccx.at (by rfl) | exact B1.at (by rfl) | exact B2.at (by rfl) | exact B904.at (by rfl))) ?_
       refine Sas rfl ?_
       refine S_nl rfl rfl ?_
       refine th_n (hK22 _ _ ?_)
       clear hK22 K22
       refine wp_seq_k fun K23 hK23 => ?_
       refine Sb 109 rfl ?_
       refine S_val (Y_field U42 rfl fz42_1 (by decide) rfl) ?_
       refine S_val (Y_load U40 rfl rfl (B904.at (by rfl))) ?_
       refine Smv rfl ?_
       refine S_val (Y_index U40 sz4 rfl rfl (by first | assumption | omega)) ?_
       refine S_val (Y_load U4 rfl rfl (by first | assumption | exact ccx.at (by rfl) | exact B1.at (by rfl) | exact B2.at (by rfl) | exact B904.at (by rfl))) ?_
       refine S_val (Y_not rfl) ?_
       refine Smv rfl ?_
       refine S_g 75 rfl (fun hb6 => ?_) (fun hb6 => ?_)
       ·
        first | with_reducible (replace hb6 := nb_nt hb6) | with_reducible (replace hb6 := nb_tt hb6) | with_reducible (replace hb6 := nb_bt hb6) | skip
        refine S_on rfl rfl ?_
        refine Smv rfl ?_
        refine S_on rfl rfl ?_
        refine S_val (Y_geq rfl rfl) ?_
        refine S_val (Y_pickT rfl rfl) ?_
        refine Smv rfl ?_
        refine S_g 79 rfl (fun hb7 => ?_) (fun hb7 => ?_)
        ·
         first | with_reducible (replace hb7 := nb_nt hb7) | with_reducible (replace hb7 := nb_tt hb7) | with_reducible (replace hb7 := nb_bt hb7) | skip
         have hn0 : 0 ≤ csJ[i2].refs[j] := by first | assumption | omega
         obtain ⟨m, hm, hmN⟩ := ref_at (vJ.leads.refs (n := i2) hil) hj1 hn0
         try dsimp only at hmN
         have hmm : m < ms.length := by omega
         obtain ⟨g7, o7, e7, hp7, hc7⟩ := OM.r1.bool (k := m) hmm
         cases e7
         rw [hm]
         refine S_on rfl rfl ?_
         refine S_val (Y_field U42 rfl fz42_1 (by decide) rfl) ?_
         refine S_on rfl rfl ?_
         refine S_val (Y_load U40 rfl rfl (B904.at (by rfl))) ?_
         refine S_on rfl rfl ?_
         refine Smv rfl ?_
         refine S_on rfl rfl ?_
         refine S_val (Y_index U40 sz4 rfl rfl (by first | assumption | omega)) ?_
         refine S_on rfl rfl ?_
         refine S_val (Y_load U4 rfl rfl (by first | assumption | exact ccx.at (by rfl) | exact B1.at (by rfl) | exact B2.at (by rfl) | exact B904.at (by rfl))) ?_
         refine S_on rfl rfl ?_
         refine S_val (Y_not rfl) ?_
         refine S_val (Y_pickT rfl rfl) ?_
         refine S_nl rfl rfl ?_
         refine th_n (hK23 _ _ ?_)
         clear hK23 K23
         refine S_if rfl (fun hb8 => ?_) (fun hb8 => ?_)
         ·
          first | with_reducible (replace hb8 := nb_nt hb8) | with_reducible (replace hb8 := nb_tt hb8) | with_reducible (replace hb8 := nb_bt hb8) | skip
          refine Sb 109 rfl ?_
          refine S_val (Y_field U42 rfl fz42_0 (by decide) rfl) ?_
          refine S_val (Y_field U26 rfl fz26_0 (by decide) rfl) ?_
          refine S_val (Y_load U23 rfl rfl (B904.at (by rfl))) ?_
          refine Smv rfl ?_
          refine S_val (Y_index U23 sz50 rfl rfl (by first | assumption | omega)) ?_
          refine S_val (Y_field U50 rfl fz50_2 (by decide) rfl) ?_
          refine S_val (Y_load U24 rfl rfl (by first | assumption | exact ccx.at (by rfl) | exact B1.at (by rfl) | exact B2.at (by rfl) | exact B904.at (by rfl))) ?_
          refine Smv rfl ?_
          refine S_val (Y_index U24 sz3 rfl rfl (by first | assumption | omega)) ?_
          refine S_of (Ys_ref sz3 OX hne (i := i2) hil hrs (j := j) hj1 rfl rfl) ?_
          rintro w44 ⟨m44, hp44, OY⟩
          try dsimp only at hp44
          replace G := G.abv m44
          first | replace GL40 := GL40.abv m44 | try clear GL40
          replace GL42 := GL42.trn m44
          replace GL43 := GL43.trn m44
          replace hA := hA0.grow G
          replace hB := hB0.grow G
          replace hC := hC0.grow G
          replace OM := OM.md m44
          replace B1 := B1.md m44
          replace B2 := B2.md m44
          replace B904 := B904.md m44
          have zm44 := m44.size
          replace OX := OY
          clear OY
          have vJ2 := valid_setRef vJ (m := i2) (j := j) (x := -1) hil (refs_cell vJ (i := i2) hil (by show 0 < csJ[i2].refs.length; omega)) (leadsB_m1 _)
          refine S_nl rfl rfl ?_
          refine ib_n ?_
          refine th_n (hK21 _ _ ?_)
          clear hK21 K21
          refine Sb 109 rfl ?_
          refine Smv rfl ?_
          refine S_val (Y_inc rfl rfl (by omega)) ?_
          refine Sas rfl ?_
          refine S_nl rfl rfl ?_
          refine th_n ?_
          go_roundw
          case rel =>
           refine ⟨?_, GL43⟩
           first | exact ⟨j + 1, _, _, rfl, by omega, by rw [List.length_set]; exact hlJ, vJ2, OX⟩ | exact ⟨j + 1, csJ, rsJ, rfl, by omega, hlJ, vJ, OX⟩
          case measure =>
           exact dec_nat (by omega)
         first | with_reducible (replace hb8 := nb_nf hb8) | with_reducible (replace hb8 := nb_tf hb8) | with_reducible (replace hb8 := nb_bf hb8) | skip
         refine wp_skip ?_
         refine ib_n ?_
         refine th_n (hK21 _ _ ?_)
         clear hK21 K21
         refine Sb 109 rfl ?_
         refine Smv rfl ?_
         refine S_val (Y_inc rfl rfl (by omega)) ?_
         refine Sas rfl ?_
         refine S_nl rfl rfl ?_
         refine th_n ?_
         go_roundw
         case rel =>
          refine ⟨?_, GL43⟩
          first | exact ⟨j + 1, _, _, rfl, by omega, by rw [List.length_set]; exact hlJ, vJ2, OX⟩ | exact ⟨j + 1, csJ, rsJ, rfl, by omega, hlJ, vJ, OX⟩
         case measure =>
          exact dec_nat (by omega)
        first | with_reducible (replace hb7 := nb_nf hb7) | with_reducible (replace hb7 := nb_tf hb7) | with_reducible (replace hb7 := nb_bf hb7) | skip
        refine S_off rfl rfl ?_
        refine S_off rfl rfl ?_
        refine S_off rfl rfl ?_
        refine S_off rfl rfl ?_
        refine S_off rfl rfl ?_
        refine S_off rfl rfl ?_
        refine S_val (Y_pickF rfl rfl) ?_
        refine S_nl rfl rfl ?_
        refine th_n (hK23 _ _ ?_)
        clear hK23 K23
        refine S_ifF rfl ?_
        refine wp_skip ?_
        refine ib_n ?_
        refine th_n (hK21 _ _ ?_)
        clear hK21 K21
        refine Sb 109 rfl ?_
        refine Smv rfl ?_
        refine S_val (Y_inc rfl rfl (by omega)) ?_
        refine Sas rfl ?_
        refine S_nl rfl rfl ?_
        refine th_n ?_
        go_roundw
        case rel =>
         refine ⟨?_, GL43⟩
         first | exact ⟨j + 1, _, _, rfl, by omega, by rw [List.length_set]; exact hlJ, vJ2, OX⟩ | exact ⟨j + 1, csJ, rsJ, rfl, by omega, hlJ, vJ, OX⟩
        case measure =>
         exact dec_nat (by omega)
       first | with_reducible (replace hb6 := nb_nf hb6) | with_reducible (replace hb6 := nb_tf hb6) | with_reducible (replace hb6 := nb_bf hb6) | skip
       refine S_off rfl rfl ?_
       refine S_off rfl rfl ?_
       refine S_val (Y_pickF rfl rfl) ?_
       refine Smv rfl ?_
       refine S_off rfl rfl ?_
       refine S_off rfl rfl ?_
       refine S_off rfl rfl ?_
       refine S_off rfl rfl ?_
       refine S_off rfl rfl ?_
       refine S_off rfl rfl ?_
       refine S_val (Y_pickF rfl rfl) ?_
       refine S_nl rfl rfl ?_
       refine th_n (hK23 _ _ ?_)
       clear hK23 K23
       refine S_ifF rfl ?_
       refine wp_skip ?_
       refine ib_n ?_
       refine th_n (hK21 _ _ ?_)
       clear hK21 K21
       refine Sb 109 rfl ?_
       refine Smv rfl ?_
       refine S_val (Y_inc rfl rfl (by omega)) ?_
       refine Sas rfl ?_
       refine S_nl rfl rfl ?_
       refine th_n ?_
       go_roundw
       case rel =>
        refine ⟨?_, GL43⟩
        first | exact ⟨j + 1, _, _, rfl, by omega, by rw [List.length_set]; exact hlJ, vJ2, OX⟩ | exact ⟨j + 1, csJ, rsJ, rfl, by omega, hlJ, vJ, OX⟩
       case measure =>
        exact dec_nat (by omega)
      replace hb5 := nb_tf hb5
      refine wp_exit ?_
      refine th_x ?_
      try clear GL43
      refine th_x ?_
      refine ib_e ?_
      refine ib_n ?_
      refine th_n (hK17 _ _ ?_)
      clear hK19 K19 hK17 K17
      refine Sb 109 rfl ?_
      refine Smv rfl ?_
      refine S_val (Y_inc rfl rfl (by omega)) ?_
      refine Sas rfl ?_
      refine S_nl rfl rfl ?_
      refine th_n ?_
      go_roundw
      case rel =>
       refine ⟨?_, GL42⟩
       exact ⟨i2 + 1, csJ, rsJ, rfl, by omega, hlJ, vJ, OX⟩
      case measure =>
       exact dec_nat (by omega)
    replace hb4 := nb_tf hb4
    have hal : a < csJ.length := by omega
    obtain ⟨gC, RX, capX, eA, hpC, hrs, ccx, hRX, hRb⟩ := OX.cellAt hne (i := a) hal
    clear hRb
    subst eA
    try dsimp only at hpC
    refine wp_exit ?_
    refine th_x ?_
    try clear GL42
    refine th_x ?_
    refine ib_e ?_
    refine th_n (hK13 _ _ ?_)
    clear hK15 K15 hK13 K13
    refine wp_seq_k fun K24 hK24 => ?_
    refine Sb 109 rfl ?_
    refine S_val (Y_field U42 rfl fz42_0 (by decide) rfl) ?_
    refine S_val (Y_field U26 rfl fz26_0 (by decide) rfl) ?_
    refine S_val (Y_load U23 rfl rfl (B904.at (by rfl))) ?_
    refine Smv rfl ?_
    refine S_val (Y_build (cs := [_, _, _]) zr50 pc50 rfl rfl) ?_
    refine S_val (Y_index U23 sz50 rfl rfl (by first | assumption | omega)) ?_
    refine S_of (Ys_cell (z := ⟨true, 0, []⟩) (R := none) (PR := No) sz50 OX hne (i := a) hal (OI.nil _ _ _ _) (fun i hi => hi.elim) rfl rfl) ?_
    rintro w45 ⟨m45, hp45, OY⟩
    try dsimp only at hp45
    replace G := G.abv m45
    first | replace GL40 := GL40.abv m45 | try clear GL40
    replace hA := hA0.grow G
    replace hB := hB0.grow G
    replace hC := hC0.grow G
    replace OM := OM.md m45
    replace B1 := B1.md m45
    replace B2 := B2.md m45
    replace B904 := B904.md m45
    have zm45 := m45.size
    replace OX := OY.weak (Pr' := (fun i => loX ≤ i ∧ i < hiX)) (fun i hi => hi.elim (fun h9 => h9) (fun h9 => h9.elim))
    clear OY
    have vF := valid_setCell vJ (k := a) (c := ⟨true, 0, []⟩) rfl (by simp) (by decide) (by decide)
    refine S_nl rfl rfl ?_
    refine th_n (hK24 _ _ ?_)
    clear hK24 K24
    refine wp_seq_k fun K25 hK25 => ?_
    refine Sb 109 rfl ?_
    refine S_val (Y_field U42 rfl fz42_1 (by decide) rfl) ?_
    refine S_val (Y_load U40 rfl rfl (B904.at (by rfl))) ?_
    refine Smv rfl ?_
    refine S_val (Y_index U40 sz4 rfl rfl (by first | assumption | omega)) ?_
    refine S_of (Ys_rowW sz4 OM (k := a) (by rw [bools_len]; omega) rfl rfl rfl rfl) ?_
    rintro w46 ⟨m46, hp46, OZ⟩
    try dsimp only at hp46
    replace G := G.abv m46
    first | replace GL40 := GL40.abv m46 | try clear GL40
    replace hA := hA0.grow G
    replace hB := hB0.grow G
    replace hC := hC0.grow G
    replace OX := OX.md m46
    replace B1 := B1.md m46
    replace B2 := B2.md m46
    replace B904 := B904.md m46
    have zm46 := m46.size
    rw [bools_set] at OZ
    replace OM := OZ
    clear OZ
    refine S_nl rfl rfl ?_
    refine th_n (hK25 _ _ ?_)
    clear hK25 K25
    refine wp_seq_k fun K26 hK26 => ?_
    refine Sb 109 rfl ?_
    refine S_val (Y_loadS U42 rfl sz42 rfl (B904.row (by rfl))) ?_
    refine Smv rfl ?_
    refine S_stM (pre := []) (old := [_, _, _, _]) (post := []) (vs := [_, _, _, _]) sz42 rfl rfl rfl (by first | rfl | assumption) B2 rfl rfl ?_
    intro w47 m47 X47
    replace B2 := Blk.eq (ys := [_, _, _, _]) X47 rfl
    clear X47
    replace G := G.abv m47
    first | replace GL40 := GL40.abv m47 | try clear GL40
    replace hA := hA0.grow G
    replace hB := hB0.grow G
    replace hC := hC0.grow G
    replace OM := OM.md m47
    replace OX := OX.md m47
    replace B1 := B1.md m47
    replace B904 := B904.md m47
    have zm47 := m47.size
    refine Sas rfl ?_
    refine S_nl rfl rfl ?_
    refine th_n (hK26 _ _ ?_)
    clear hK26 K26
    refine wp_ret ?_
    refine ib_r ?_
    try clear GL40
    refine th_r ?_
    refine ib_r ?_
    refine th_r ?_
    clear hK6 K6
    refine ret_rct (cs := [_, _, _, _]) U42 rfl sz42 rfl rfl rfl (B2.row (by rfl)) ?_
    exact ⟨_, _, _, _, _, _, _, _, _, ⟨csJ.set a ⟨true, 0, []⟩, h.roots⟩, ms.set a true, _, _, (fun i => loX ≤ i ∧ i < hiX), (fun i => (i = b916 ∨ loZ ≤ i) ∧ i < hiZ), rfl, by rw [List.length_set]; exact hlJ.symm, rfl, (List.length_set ..).symm, Nat.le_trans vF.small (by decide), by rw [List.length_set]; omega, ⟨by omega, by omega⟩, fun i hi => ⟨by omega, fun h9 => by omega⟩, fun i hi => by omega, OX.rc, OX.r1, OM, G⟩
  replace hb2 := nb_tf hb2
  refine wp_exit ?_
  refine th_x ?_
  try clear GL40
  refine th_x ?_
  refine ib_e ?_
  refine th_n (hK6 _ _ ?_)
  clear hK7 K7 hK6 K6
  refine wp_seq_k fun K27 hK27 => ?_
  refine Sb 109 rfl ?_
  refine S_val (Y_loadS U42 rfl sz42 rfl (B904.row (by rfl))) ?_
  refine S_stM (pre := []) (old := [_, _, _, _]) (post := []) (vs := [_, _, _, _]) sz42 rfl rfl rfl (by first | rfl | assumption) B2 rfl rfl ?_
  intro w48 m48 X48
  replace B2 := Blk.eq (ys := [_, _, _, _]) X48 rfl
  clear X48
  replace G := G.abv m48
  replace hA := hA0.grow G
  replace hB := hB0.grow G
  replace hC := hC0.grow G
  replace OX := OX.md m48
  replace OM := OM.md m48
  replace B1 := B1.md m48
  replace B904 := B904.md m48
  have zm48 := m48.size
  refine Sas rfl ?_
  refine S_nl rfl rfl ?_
  refine th_n (hK27 _ _ ?_)
  clear hK27 K27
  refine wp_ret ?_
  refine ret_rct (cs := [_, _, _, _]) U42 rfl sz42 rfl rfl rfl (B2.row (by rfl)) ?_
  exact ⟨_, _, _, _, _, _, _, _, _, h, ms, _, _, (fun i => loX ≤ i ∧ i < hiX), (fun i => (i = b916 ∨ loZ ≤ i) ∧ i < hiZ), rfl, rfl, rfl, rfl, by have h9 := va.small; omega, by omega, ⟨by omega, by omega⟩, fun i hi => ⟨by omega, fun h9 => by omega⟩, fun i hi => by omega, OX.rc, OX.r1, OM, G⟩
set_option maxHeartbeats 4000000 in
set_option maxRecDepth 20000 in
theorem spec_l20Lazy_c (bR p : Nat) (n : Int) (w : World) (RD : Rd w bR p) (hp : p ≤ 600000) (hn : n ≤ 9223372036854775807) :
    Calls Try.prog 42 #[.pointer (some ⟨bR, 0, none⟩), .int .i64 n] w (Ret fun v w' => ∃ (hD : LH) (ns : List Bool) (y : Int) (A1 B1 C1 : Option Addr) (n1 c1 n2 c2 n3 c3 : Nat) (p2 : Nat), v = .agg #[.slice A1 n1 c1, .slice B1 n2 c2, .slice C1 n3 c3, .int .i64 y] ∧ n1 = hD.cells.length ∧ n2 = hD.roots.length ∧ n3 = ns.length ∧ hsize hD ≤ 300 ∧ ns.length ≤ 301 ∧ (-1 ≤ y ∧ y ≤ 302) ∧ RC (fun i => w.heap.size ≤ i) w' A1 hD.cells ∧ R1 (fun i => w.heap.size ≤ i) w' B1 (ints hD.roots) ∧ R1 (fun i => w.heap.size ≤ i) w' C1 (bools ns) ∧ p2 ≤ p + 3000 ∧ Rd w' bR p2 ∧ Mod (fun i => i = bR) w w') := by
 have lbR := RD.lt
 refine enter Try.func42 rfl Try.ntmps42 (L := [_,_,_,_,_,_,_,_,_,_,_,_,_,_,_,_,_,_,_,_,_,_,_,_,_,_,_,_,_,_,_,_,_,_,_,_,_,_,_,_,_,_,_,_,_,_,_,_,_,_,_,_,_,_,_,_,_,_,_,_,_,_,_,_,_,_]) rfl ?_
 have G := Mod.refl (fun i => i = bR) w
 refine wp_seq_k fun K1 hK1 => ?_
 refine Sb 66 rfl ?_
 refine S_alloc (cs := [_, _, _, _]) zr42 rfl ?_
 intro b1 w1 fb1 g1 B1
 have lb1 := B1.lt
 replace RD := RD.grow g1
 replace G := G.grow g1
 have zg1 := g1.size
 refine S_nl rfl rfl ?_
 refine th_n (hK1 _ _ ?_)
 clear hK1 K1
 refine wp_seq_k fun K2 hK2 => ?_
 refine Sb 66 rfl ?_
 refine Smv rfl ?_
 refine S_call rfl en48 (spec_l20Heap_c _ _ _ _ RD (by omega) (by omega)) ?_
 rintro v2 w2 ⟨hD2, A2, B2, n12, c12, n22, c22, p2, rfl, hn12, hn22, hz2, hp2, RC2, RR2, RD2, m2⟩
 subst hn12
 subst hn22
 obtain ⟨h, rfl⟩ : ∃ x, x = hD2 := ⟨_, rfl⟩
 obtain ⟨AD, rfl⟩ : ∃ x, x = A2 := ⟨_, rfl⟩
 obtain ⟨BD, rfl⟩ : ∃ x, x = B2 := ⟨_, rfl⟩
 obtain ⟨cD, rfl⟩ : ∃ x, x = c12 := ⟨_, rfl⟩
 obtain ⟨dD, rfl⟩ : ∃ x, x = c22 := ⟨_, rfl⟩
 have hzD := hz2
 have hzcD := hsize_cells h
 obtain ⟨pD, rfl⟩ : ∃ x, x = p2 := ⟨_, rfl⟩
 have hpD := hp2
 obtain ⟨loD, hloD⟩ : ∃ x, x = w1.heap.size := ⟨_, rfl⟩
 obtain ⟨hiD, hhiD⟩ : ∃ x, x = w2.heap.size := ⟨_, rfl⟩
 replace RD := RD2
 clear RD2
 replace G := Mod.trans' G m2 (fun _ h _ => h) (fun i h hl => by first | exact h | omega | (dsimp only at h ⊢; omega))
 replace B1 := B1.mod m2 (by intro h; first | omega | (dsimp only at h; omega) | (exact absurd h.1 hk.1) | (rw [h] at hk; exact absurd hpS.1 hk.1))
 have zm2 := m2.size
 have hDA : RC (fun k => loD ≤ k ∧ k < hiD) w2 AD h.cells := RC.both RC2 RC2.below hloD hhiD
 have hDB : R1 (fun k => loD ≤ k ∧ k < hiD) w2 BD (ints h.roots) := R1.both RR2 RR2.below hloD hhiD
 refine S_call rfl en66 (spec_LazyStart2_c _ _ _ h _ _ _ hDA hDB (by omega) (by omega)) ?_
 rintro v3 w3 ⟨A3, B3, C3, n13, c13, n23, c23, n33, c33, h3, ns3, y3, P3, Q3, rfl, hn13, hn23, hn33, hz3, hy3, hr3, hPQ3, hQ3, RC3, RR3, OC3, g3⟩
 replace RD := RD.grow g3
 replace hDA := hDA.grow g3
 replace hDB := hDB.grow g3
 replace G := G.grow g3
 replace B1 := B1.grow g3
 have zg3 := g3.size
 subst hn13
 subst hn23
 subst hn33
 obtain ⟨hF, rfl⟩ : ∃ x, x = h3 := ⟨_, rfl⟩
 obtain ⟨nF, rfl⟩ : ∃ x, x = ns3 := ⟨_, rfl⟩
 obtain ⟨yF, rfl⟩ : ∃ x, x = y3 := ⟨_, rfl⟩
 have hzF := hz3
 have hyF := hy3
 have hrF := hr3
 obtain ⟨PF1, rfl⟩ : ∃ x, x = P3 := ⟨_, rfl⟩
 obtain ⟨PF2, rfl⟩ : ∃ x, x = Q3 := ⟨_, rfl⟩
 obtain ⟨loF, hloF⟩ : ∃ x, x = w2.heap.size := ⟨_, rfl⟩
 obtain ⟨hiF, hhiF⟩ : ∃ x, x = w3.heap.size := ⟨_, rfl⟩
 have hpqF := hPQ3
 have hqF := hQ3
 have hFA : RC (fun k => PF1 k ∧ loF ≤ k ∧ k < hiF) w3 _ hF.cells := RC.tigh2 RC3 (fun k hk => by have h9 := (hpqF k hk).1; omega) hhiF
 have hFB : R1 (fun k => PF1 k ∧ loF ≤ k ∧ k < hiF) w3 _ (ints hF.roots) := R1.tigh2 RR3 (fun k hk => by have h9 := (hpqF k hk).1; omega) hhiF
 have hFC : OW (fun k => PF2 k ∧ loF ≤ k ∧ k < hiF) w3 4 1 _ nF.length _ (bools nF) := OW.tigh2 OC3 (fun k hk => by have h9 := hqF k hk; omega) hhiF
 refine S_alloc (cs := [_, _, _, _]) zr42 rfl ?_
 intro b4 w4 fb4 g4 B4
 have lb4 := B4.lt
 replace RD := RD.grow g4
 replace hDA := hDA.grow g4
 replace hDB := hDB.grow g4
 replace hFA := hFA.grow g4
 replace hFB := hFB.grow g4
 replace hFC := hFC.grow g4
 replace G := G.grow g4
 replace B1 := B1.grow g4
 have zg4 := g4.size
 refine S_stM (pre := []) (old := [_, _, _, _]) (post := []) (vs := [_, _, _, _]) sz42 rfl rfl rfl (by first | rfl | assumption) B4 rfl rfl ?_
 intro w5 m5 X5
 replace B4 := Blk.eq (ys := [_, _, _, _]) X5 rfl
 clear X5
 replace G := Mod.trans' G m5 (fun _ h _ => h) (fun i h hl => by first | exact h | omega | (dsimp only at h ⊢; omega))
 replace RD := RD.mod m5 (by intro k hk h; first | omega | (dsimp only at hk h; omega) | (dsimp only at hk; omega) | (exact absurd h.1 hk.1) | (rw [h] at hk; exact absurd hpS.1 hk.1))
 replace hDA := hDA.mod m5 (by intro k hk h; first | omega | (dsimp only at hk h; omega) | (dsimp only at hk; omega) | (exact absurd h.1 hk.1) | (rw [h] at hk; exact absurd hpS.1 hk.1))
 replace hDB := hDB.mod m5 (by intro k hk h; first | omega | (dsimp only at hk h; omega) | (dsimp only at hk; omega) | (exact absurd h.1 hk.1) | (rw [h] at hk; exact absurd hpS.1 hk.1))
 replace hFA := hFA.mod m5 (by intro k hk h; first | omega | (dsimp only at hk h; omega) | (dsimp only at hk; omega) | (exact absurd h.1 hk.1) | (rw [h] at hk; exact absurd hpS.1 hk.1))
 replace hFB := hFB.mod m5 (by intro k hk h; first | omega | (dsimp only at hk h; omega) | (dsimp only at hk; omega) | (exact absurd h.1 hk.1) | (rw [h] at hk; exact absurd hpS.1 hk.1))
 replace hFC := hFC.mod m5 (by intro k hk h; first | omega | (dsimp only at hk h; omega) | (dsimp only at hk; omega) | (exact absurd h.1 hk.1) | (rw [h] at hk; exact absurd hpS.1 hk.1))
 replace B1 := B1.mod m5 (by intro h; first | omega | (dsimp only at h; omega) | (exact absurd h.1 hk.1) | (rw [h] at hk; exact absurd hpS.1 hk.1))
 have zm5 := m5.size
 refine S_nl rfl rfl ?_
 refine th_n (hK2 _ _ ?_)
 clear hK2 K2
 refine wp_seq_k fun K3 hK3 => ?_
 refine wp_seq_k fun K4 hK4 => ?_
 refine Sb 66 rfl ?_
 refine Smv rfl ?_
 refine S_call rfl en50 (spec_l20Rd_pick_c _ _ _ _ RD (by omega) (by omega)) ?_
 rintro v6 w6 ⟨k6, rfl, hk6, RD6, m6⟩
 obtain ⟨k1, rfl⟩ : ∃ x, x = k6 := ⟨_, rfl⟩
 have hk1 := hk6 (by decide)
 replace RD := RD6
 clear RD6
 replace G := Mod.trans' G m6 (fun _ h _ => h) (fun i h hl => by first | exact h | omega | (dsimp only at h ⊢; omega))
 replace hDA := hDA.mod m6 (by intro k hk h; first | omega | (dsimp only at hk h; omega) | (dsimp only at hk; omega) | (exact absurd h.1 hk.1) | (rw [h] at hk; exact absurd hpS.1 hk.1))
 replace hDB := hDB.mod m6 (by intro k hk h; first | omega | (dsimp only at hk h; omega) | (dsimp only at hk; omega) | (exact absurd h.1 hk.1) | (rw [h] at hk; exact absurd hpS.1 hk.1))
 replace hFA := hFA.mod m6 (by intro k hk h; first | omega | (dsimp only at hk h; omega) | (dsimp only at hk; omega) | (exact absurd h.1 hk.1) | (rw [h] at hk; exact absurd hpS.1 hk.1))
 replace hFB := hFB.mod m6 (by intro k hk h; first | omega | (dsimp only at hk h; omega) | (dsimp only at hk; omega) | (exact absurd h.1 hk.1) | (rw [h] at hk; exact absurd hpS.1 hk.1))
 replace hFC := hFC.mod m6 (by intro k hk h; first | omega | (dsimp only at hk h; omega) | (dsimp only at hk; omega) | (exact absurd h.1 hk.1) | (rw [h] at hk; exact absurd hpS.1 hk.1))
 replace B1 := B1.mod m6 (by intro h; first | omega | (dsimp only at h; omega) | (exact absurd h.1 hk.1) | (rw [h] at hk; exact absurd hpS.1 hk.1))
 replace B4 := B4.mod m6 (by intro h; first | omega | (dsimp only at h; omega) | (exact absurd h.1 hk.1) | (rw [h] at hk; exact absurd hpS.1 hk.1))
 have zm6 := m6.size
 refine Sas rfl ?_
 refine S_nl rfl rfl ?_
 refine th_n (hK4 _ _ ?_)
 clear hK4 K4
 refine wp_block ?_
 go_loopw [6] (fun u6 wr => (∃ (k : Nat) (hK : LH) (ns : List Bool) (y : Int) (AK BK CK : Option Addr) (c1 c2 c3 : Nat) (P1 P2 : Nat → Prop), u6 = .int .i64 k ∧ k ≤ 5 ∧ hsize hK ≤ 300 ∧ ns.length ≤ 300 ∧ (0 ≤ y ∧ y ≤ 300) ∧ Blk wr b4 42 [.slice AK hK.cells.length c1, .slice BK hK.roots.length c2, .slice CK ns.length c3, .int .i64 y].toArray ∧ (∀ i : Nat, P1 i → b1 < i ∧ i ≠ b4 ∧ ¬ P2 i) ∧ (∀ i : Nat, P2 i → b1 < i ∧ i ≠ b4) ∧ RC P1 wr AK hK.cells ∧ R1 P1 wr BK (ints hK.roots) ∧ OW P2 wr 4 1 CK ns.length c3 (bools ns)) ∧ Mod (fun i => i = b4) w6 wr) (fun u6 wr => (intOf u6).toNat)
 case atStart =>
  refine ⟨?_, Mod.refl _ _⟩
  exact ⟨k1, hF, nF, yF, _, _, _, _, _, _, (fun k => PF1 k ∧ loF ≤ k ∧ k < hiF), (fun k => PF2 k ∧ loF ≤ k ∧ k < hiF), rfl, by omega, hzF, hyF, hrF, B4, fun i hi => ⟨by have h9 := hi.2.1; omega, by have h9 := hi.2.1; omega, fun h9 => (hpqF i hi.1).2 h9.1⟩, fun i hi => ⟨by have h9 := hi.2.1; omega, by have h9 := hi.2.1; omega⟩, hFA, hFB, hFC⟩
 case round =>
  obtain ⟨w7, rfl⟩ : ∃ x : World, x = wr := ⟨_, rfl⟩
  obtain ⟨hrel, g7⟩ := hrel
  clear B4
  replace G := Mod.trans' G g7 (fun _ h _ => h) (fun i h hl => by first | exact h | omega | (dsimp only at h ⊢; omega))
  replace hDA := hDA.mod g7 (by intro k hk h; first | omega | (dsimp only at hk h; omega) | (dsimp only at hk; omega) | (exact absurd h.1 hk.1) | (rw [h] at hk; exact absurd hpS.1 hk.1))
  replace hDB := hDB.mod g7 (by intro k hk h; first | omega | (dsimp only at hk h; omega) | (dsimp only at hk; omega) | (exact absurd h.1 hk.1) | (rw [h] at hk; exact absurd hpS.1 hk.1))
  replace hFA := hFA.mod g7 (by intro k hk h; first | omega | (dsimp only at hk h; omega) | (dsimp only at hk; omega) | (exact absurd h.1 hk.1) | (rw [h] at hk; exact absurd hpS.1 hk.1))
  replace hFB := hFB.mod g7 (by intro k hk h; first | omega | (dsimp only at hk h; omega) | (dsimp only at hk; omega) | (exact absurd h.1 hk.1) | (rw [h] at hk; exact absurd hpS.1 hk.1))
  replace hFC := hFC.mod g7 (by intro k hk h; first | omega | (dsimp only at hk h; omega) | (dsimp only at hk; omega) | (exact absurd h.1 hk.1) | (rw [h] at hk; exact absurd hpS.1 hk.1))
  replace RD := RD.mod g7 (by intro k hk h; first | omega | (dsimp only at hk h; omega) | (dsimp only at hk; omega) | (exact absurd h.1 hk.1) | (rw [h] at hk; exact absurd hpS.1 hk.1))
  replace B1 := B1.mod g7 (by intro h; first | omega | (dsimp only at h; omega) | (exact absurd h.1 hk.1) | (rw [h] at hk; exact absurd hpS.1 hk.1))
  have zg7 := g7.size
  obtain ⟨k, hK, ns, y, AK, BK, CK, c1, c2, c3, P1, P2, rfl, hk, hzK, hyK, hrK, B4, hp1, hp2, hKA, hKB, hKC⟩ := hrel
  have hzcK := hsize_cells hK
  obtain ⟨hiK, hhiK⟩ : ∃ x, x = w7.heap.size := ⟨_, rfl⟩
  replace hKA := RC.tigh2 (lo := 0) (hi := hiK) hKA (fun _ _ => Nat.zero_le _) hhiK
  replace hKB := R1.tigh2 (lo := 0) (hi := hiK) hKB (fun _ _ => Nat.zero_le _) hhiK
  replace hKC := OW.tigh2 (lo := 0) (hi := hiK) hKC (fun _ _ => Nat.zero_le _) hhiK
  replace hKA := hKA.weak (Pr' := (fun k => ¬ P2 k ∧ b1 < k ∧ k ≠ b4 ∧ k < hiK)) (fun i hi => ⟨(hp1 i hi.1).2.2, (hp1 i hi.1).1, (hp1 i hi.1).2.1, hi.2.2⟩)
  replace hKB := hKB.weak (Pr' := (fun k => ¬ P2 k ∧ b1 < k ∧ k ≠ b4 ∧ k < hiK)) (fun i hi => ⟨(hp1 i hi.1).2.2, (hp1 i hi.1).1, (hp1 i hi.1).2.1, hi.2.2⟩)
  replace hKC := hKC.weak (Pr' := (fun k => P2 k ∧ b1 < k ∧ k ≠ b4 ∧ k < hiK)) (fun i hi => ⟨hi.1, (hp2 i hi.1).1, (hp2 i hi.1).2, hi.2.2⟩)
  have GL7 := g7
  refine wp_seq_k fun K5 hK5 => ?_
  refine wp_seq_k fun K6 hK6 => ?_
  refine Sb 66 rfl ?_
  refine Smv rfl ?_
  refine S_val (Y_gtr rfl rfl) ?_
  refine S_nl rfl rfl ?_
  refine th_n (hK6 _ _ ?_)
  clear hK6 K6
  refine S_if rfl (fun hb1 => ?_) (fun hb1 => ?_)
  ·
   replace hb1 := nb_tt hb1
   have hk0 : 0 < k := by omega
   have hSA := hKA.weak (Pr' := (fun k => b1 < k ∧ k ≠ b4 ∧ k < hiK)) (fun i hi => hi.2)
   have hSB := hKB.weak (Pr' := (fun k => b1 < k ∧ k ≠ b4 ∧ k < hiK)) (fun i hi => hi.2)
   have hSC := (hKC.weak (Pr' := (fun k => b1 < k ∧ k ≠ b4 ∧ k < hiK)) (fun i hi => hi.2)).r1
   refine wp_skip ?_
   refine th_n (hK5 _ _ ?_)
   clear hK5 K5
   refine wp_seq_k fun K7 hK7 => ?_
   refine wp_block ?_
   refine Sb 66 rfl ?_
   refine S_val (Y_loadS U42 rfl sz42 rfl (B4.row (by rfl))) ?_
   refine S_call rfl en67 (spec_LazyTake_c (fun k => b1 < k ∧ k ≠ b4 ∧ k < hiK) _ _ _ hK ns y _ _ _ _ hSA hSB hSC (by omega) (by omega) (by omega)) ?_
   rintro v8 w8 ⟨A8, B8, C8, n18, c18, n28, c28, n38, c38, h8, ns8, y8, r8, P8, Q8, rfl, hn18, hn28, hn38, hz8, hy8, hr8, hPQ8, hQ8, RC8, RR8, OC8, g8⟩
   replace RD := RD.grow g8
   replace hKA := hKA.grow g8
   replace hKB := hKB.grow g8
   replace hKC := hKC.grow g8
   replace hSA := hSA.grow g8
   replace hSB := hSB.grow g8
   replace hSC := hSC.grow g8
   replace G := G.grow g8
   replace GL7 := GL7.grow g8
   replace B1 := B1.grow g8
   replace B4 := B4.grow g8
   have zg8 := g8.size
   subst hn18
   subst hn28
   subst hn38
   obtain ⟨hF, rfl⟩ : ∃ x, x = h8 := ⟨_, rfl⟩
   obtain ⟨nF, rfl⟩ : ∃ x, x = ns8 := ⟨_, rfl⟩
   obtain ⟨yF, rfl⟩ : ∃ x, x = y8 := ⟨_, rfl⟩
   have hzF := hz8
   have hyF := hy8
   have hrF := hr8
   obtain ⟨PF1, rfl⟩ : ∃ x, x = P8 := ⟨_, rfl⟩
   obtain ⟨PF2, rfl⟩ : ∃ x, x = Q8 := ⟨_, rfl⟩
   obtain ⟨loF, hloF⟩ : ∃ x, x = w7.heap.size := ⟨_, rfl⟩
   obtain ⟨hiF, hhiF⟩ : ∃ x, x = w8.heap.size := ⟨_, rfl⟩
   have hpqF := hPQ8
   have hqF := hQ8
   have hFA : RC (fun k => PF1 k ∧ loF ≤ k ∧ k < hiF) w8 _ hF.cells := RC.tigh2 RC8 (fun k hk => by have h9 := (hpqF k hk).1; omega) hhiF
   have hFB : R1 (fun k => PF1 k ∧ loF ≤ k ∧ k < hiF) w8 _ (ints hF.roots) := R1.tigh2 RR8 (fun k hk => by have h9 := (hpqF k hk).1; omega) hhiF
   have hFC : OW (fun k => PF2 k ∧ loF ≤ k ∧ k < hiF) w8 4 1 _ nF.length _ (bools nF) := OW.tigh2 OC8 (fun k hk => by have h9 := hqF k hk; omega) hhiF
   refine Smv rfl ?_
   refine S_val (Y_extract rfl rfl) ?_
   refine S_val (Y_extract rfl rfl) ?_
   refine S_stM (pre := []) (old := [_, _, _, _]) (post := []) (vs := [_, _, _, _]) sz42 rfl rfl rfl (by first | rfl | assumption) B4 rfl rfl ?_
   intro w9 m9 X9
   replace B4 := Blk.eq (ys := [_, _, _, _]) X9 rfl
   clear X9
   replace G := Mod.trans' G m9 (fun _ h _ => h) (fun i h hl => by first | exact h | omega | (dsimp only at h ⊢; omega))
   replace GL7 := GL7.trn m9
   replace RD := RD.mod m9 (by intro k hk h; first | omega | (dsimp only at hk h; omega) | (dsimp only at hk; omega) | (exact absurd h.1 hk.1) | (rw [h] at hk; exact absurd hpS.1 hk.1))
   replace hKA := hKA.mod m9 (by intro k hk h; first | omega | (dsimp only at hk h; omega) | (dsimp only at hk; omega) | (exact absurd h.1 hk.1) | (rw [h] at hk; exact absurd hpS.1 hk.1))
   replace hKB := hKB.mod m9 (by intro k hk h; first | omega | (dsimp only at hk h; omega) | (dsimp only at hk; omega) | (exact absurd h.1 hk.1) | (rw [h] at hk; exact absurd hpS.1 hk.1))
   replace hKC := hKC.mod m9 (by intro k hk h; first | omega | (dsimp only at hk h; omega) | (dsimp only at hk; omega) | (exact absurd h.1 hk.1) | (rw [h] at hk; exact absurd hpS.1 hk.1))
   replace hSA := hSA.mod m9 (by intro k hk h; first | omega | (dsimp only at hk h; omega) | (dsimp only at hk; omega) | (exact absurd h.1 hk.1) | (rw [h] at hk; exact absurd hpS.1 hk.1))
   replace hSB := hSB.mod m9 (by intro k hk h; first | omega | (dsimp only at hk h; omega) | (dsimp only at hk; omega) | (exact absurd h.1 hk.1) | (rw [h] at hk; exact absurd hpS.1 hk.1))
   replace hSC := hSC.mod m9 (by intro k hk h; first | omega | (dsimp only at hk h; omega) | (dsimp only at hk; omega) | (exact absurd h.1 hk.1) | (rw [h] at hk; exact absurd hpS.1 hk.1))
   replace hFA := hFA.mod m9 (by intro k hk h; first | omega | (dsimp only at hk h; omega) | (dsimp only at hk; omega) | (exact absurd h.1 hk.1) | (rw [h] at hk; exact absurd hpS.1 hk.1))
   replace hFB := hFB.mod m9 (by intro k hk h; first | omega | (dsimp only at hk h; omega) | (dsimp only at hk; omega) | (exact absurd h.1 hk.1) | (rw [h] at hk; exact absurd hpS.1 hk.1))
   replace hFC := hFC.mod m9 (by intro k hk h; first | omega | (dsimp only at hk h; omega) | (dsimp only at hk; omega) | (exact absurd h.1 hk.1) | (rw [h] at hk; exact absurd hpS.1 hk.1))
   replace B1 := B1.mod m9 (by intro h; first | omega | (dsimp only at h; omega) | (exact absurd h.1 hk.1) | (rw [h] at hk; exact absurd hpS.1 hk.1))
   have zm9 := m9.size
   refine S_nl rfl rfl ?_
   refine ib_n ?_
   refine th_n (hK7 _ _ ?_)
   clear hK7 K7
   refine Sb 66 rfl ?_
   refine Smv rfl ?_
   refine S_val (Y_sub (c := ((k - 1 : Nat) : Int)) rfl rfl (by omega) (by omega) (by omega)) ?_
   refine Sas rfl ?_
   refine S_nl rfl rfl ?_
   refine th_n ?_
   go_roundw
   case rel =>
    refine ⟨?_, GL7⟩
    exact ⟨k - 1, hF, nF, yF, _, _, _, _, _, _, (fun k => PF1 k ∧ loF ≤ k ∧ k < hiF), (fun k => PF2 k ∧ loF ≤ k ∧ k < hiF), rfl, by omega, hzF, hyF, hrF, B4, fun i hi => ⟨by have h9 := hi.2.1; omega, by have h9 := hi.2.1; omega, fun h9 => (hpqF i hi.1).2 h9.1⟩, fun i hi => ⟨by have h9 := hi.2.1; omega, by have h9 := hi.2.1; omega⟩, hFA, hFB, hFC⟩
   case measure =>
    exact dec_nat (by omega)
  replace hb1 := nb_tf hb1
  refine wp_exit ?_
  refine th_x ?_
  try clear GL7
  refine th_x ?_
  refine ib_e ?_
  refine th_n (hK3 _ _ ?_)
  clear hK5 K5 hK3 K3
  refine wp_seq_k fun K8 hK8 => ?_
  refine wp_seq_k fun K9 hK9 => ?_
  refine Sb 66 rfl ?_
  refine Smv rfl ?_
  refine Smv rfl ?_
  refine S_call rfl en53 (spec_l20Rd_odd_c _ _ _ _ RD (by omega) (by omega)) ?_
  rintro v10 w10 ⟨r10, p10, rfl, hr10, hp10, RD10, m10⟩
  obtain ⟨r9, rfl⟩ : ∃ x, x = r10 := ⟨_, rfl⟩
  have hr9 := hr10
  replace RD := RD10
  clear RD10
  replace G := Mod.trans' G m10 (fun _ h _ => h) (fun i h hl => by first | exact h | omega | (dsimp only at h ⊢; omega))
  replace hKA := hKA.mod m10 (by intro k hk h; first | omega | (dsimp only at hk h; omega) | (dsimp only at hk; omega) | (exact absurd h.1 hk.1) | (rw [h] at hk; exact absurd hpS.1 hk.1))
  replace hKB := hKB.mod m10 (by intro k hk h; first | omega | (dsimp only at hk h; omega) | (dsimp only at hk; omega) | (exact absurd h.1 hk.1) | (rw [h] at hk; exact absurd hpS.1 hk.1))
  replace hKC := hKC.mod m10 (by intro k hk h; first | omega | (dsimp only at hk h; omega) | (dsimp only at hk; omega) | (exact absurd h.1 hk.1) | (rw [h] at hk; exact absurd hpS.1 hk.1))
  replace B1 := B1.mod m10 (by intro h; first | omega | (dsimp only at h; omega) | (exact absurd h.1 hk.1) | (rw [h] at hk; exact absurd hpS.1 hk.1))
  replace B4 := B4.mod m10 (by intro h; first | omega | (dsimp only at h; omega) | (exact absurd h.1 hk.1) | (rw [h] at hk; exact absurd hpS.1 hk.1))
  have zm10 := m10.size
  refine S_nl rfl rfl ?_
  refine th_n (hK9 _ _ ?_)
  clear hK9 K9
  refine S_if rfl (fun hb2 => ?_) (fun hb2 => ?_)
  ·
   first | with_reducible (replace hb2 := nb_nt hb2) | with_reducible (replace hb2 := nb_tt hb2) | with_reducible (replace hb2 := nb_bt hb2) | skip
   refine wp_seq_k fun K10 hK10 => ?_
   refine Sb 66 rfl ?_
   refine Smv rfl ?_
   refine S_call rfl en50 (spec_l20Rd_pick_c _ _ _ _ RD (by omega) (by omega)) ?_
   rintro v11 w11 ⟨k11, rfl, hk11, RD11, m11⟩
   obtain ⟨k2, rfl⟩ : ∃ x, x = k11 := ⟨_, rfl⟩
   have hk2 := hk11 (by decide)
   replace RD := RD11
   clear RD11
   replace G := Mod.trans' G m11 (fun _ h _ => h) (fun i h hl => by first | exact h | omega | (dsimp only at h ⊢; omega))
   replace hKA := hKA.mod m11 (by intro k hk h; first | omega | (dsimp only at hk h; omega) | (dsimp only at hk; omega) | (exact absurd h.1 hk.1) | (rw [h] at hk; exact absurd hpS.1 hk.1))
   replace hKB := hKB.mod m11 (by intro k hk h; first | omega | (dsimp only at hk h; omega) | (dsimp only at hk; omega) | (exact absurd h.1 hk.1) | (rw [h] at hk; exact absurd hpS.1 hk.1))
   replace hKC := hKC.mod m11 (by intro k hk h; first | omega | (dsimp only at hk h; omega) | (dsimp only at hk; omega) | (exact absurd h.1 hk.1) | (rw [h] at hk; exact absurd hpS.1 hk.1))
   replace B1 := B1.mod m11 (by intro h; first | omega | (dsimp only at h; omega) | (exact absurd h.1 hk.1) | (rw [h] at hk; exact absurd hpS.1 hk.1))
   replace B4 := B4.mod m11 (by intro h; first | omega | (dsimp only at h; omega) | (exact absurd h.1 hk.1) | (rw [h] at hk; exact absurd hpS.1 hk.1))
   have zm11 := m11.size
   refine S_nl rfl rfl ?_
   refine th_n (hK10 _ _ ?_)
   clear hK10 K10
   refine wp_block ?_
   refine wp_seq_k fun K11 hK11 => ?_
   refine Sb 66 rfl ?_
   refine S_val (Y_eql rfl rfl) ?_
   refine Sas rfl ?_
   refine S_nl rfl rfl ?_
   refine th_n (hK11 _ _ ?_)
   clear hK11 K11
   refine S_if rfl (fun hb3 => ?_) (fun hb3 => ?_)
   ·
    replace hb3 := nb_tt hb3
    refine D_start 11 66 (fun w => Mod (fun i => i = bR ∨ i = b4) w) follows rfl rfl ?_
    intro w12 g12
    replace hKA := hKA.grow g12
    replace hKB := hKB.grow g12
    replace hKC := hKC.grow g12
    replace RD := RD.grow g12
    replace G := G.grow g12
    replace B1 := B1.grow g12
    replace B4 := B4.grow g12
    have zg12 := g12.size
    have GS12 := Mod.refl (fun i => i = bR ∨ i = b4) w12
    refine Dq (i := 0) rfl GS12 (fun _ _ => Y_field U42 rfl fz42_1 (by decide) rfl) ?_
    refine Dq (i := 5) rfl GS12 (fun _ _ => Y_move rfl) ?_
    refine D_2 (i := 1) (j := 6) (by kernel_rfl) ?_ ?_
    ·
     refine E_val (i := 1) rfl (Y_load U40 rfl rfl (B4.at (by rfl))) GS12 ?_
     refine Dq (i := 2) rfl GS12 (fun _ _ => Y_len U40 rfl) ?_
     refine Dq (i := 3) rfl GS12 (fun _ _ => Y_add (c := (ns.length : Int) + 1) rfl rfl rfl (by omega) (by omega)) ?_
     refine D_2 (i := 4) (j := 6) (by kernel_rfl) ?_ ?_
     ·
      refine E_bsN (cs := [_, _]) (i := 4) rfl U24 zr3 sz3 rfl rfl ?_
      intro b14 w14 fb14 g14 B14
      refine ⟨GS12.grow g14, ?_⟩
      have lb14 := B14.lt
      replace hKA := hKA.grow g14
      replace hKB := hKB.grow g14
      replace hKC := hKC.grow g14
      replace RD := RD.grow g14
      replace G := G.grow g14
      replace GS12 := GS12.grow g14
      replace B1 := B1.grow g14
      replace B4 := B4.grow g14
      have zg14 := g14.size
      refine D_1 (i := 6) (by kernel_rfl) ?_
      refine E_call rfl rfl en50 (spec_l20Rd_pick_c _ _ _ _ RD (by omega) (by omega)) ?_
      rintro v15 w15 ⟨k15, rfl, hk15, RD15, m15⟩
      obtain ⟨k3, rfl⟩ : ∃ x, x = k15 := ⟨_, rfl⟩
      have hk3 := hk15 (by decide)
      replace RD := RD15
      clear RD15
      replace G := Mod.trans' G m15 (fun _ h _ => h) (fun i h hl => by first | exact h | omega | (dsimp only at h ⊢; omega))
      replace GS12 := GS12.trn m15
      replace hKA := hKA.mod m15 (by intro k hk h; first | omega | (dsimp only at hk h; omega) | (dsimp only at hk; omega) | (exact absurd h.1 hk.1) | (rw [h] at hk; exact absurd hpS.1 hk.1))
      replace hKB := hKB.mod m15 (by intro k hk h; first | omega | (dsimp only at hk h; omega) | (dsimp only at hk; omega) | (exact absurd h.1 hk.1) | (rw [h] at hk; exact absurd hpS.1 hk.1))
      replace hKC := hKC.mod m15 (by intro k hk h; first | omega | (dsimp only at hk h; omega) | (dsimp only at hk; omega) | (exact absurd h.1 hk.1) | (rw [h] at hk; exact absurd hpS.1 hk.1))
      replace B1 := B1.mod m15 (by intro h; first | omega | (dsimp only at h; omega) | (exact absurd h.1 hk.1) | (rw [h] at hk; exact absurd hpS.1 hk.1))
      replace B4 := B4.mod m15 (by intro h; first | omega | (dsimp only at h; omega) | (exact absurd h.1 hk.1) | (rw [h] at hk; exact absurd hpS.1 hk.1))
      replace B14 := B14.mod m15 (by intro h; first | omega | (dsimp only at h; omega) | (exact absurd h.1 hk.1) | (rw [h] at hk; exact absurd hpS.1 hk.1))
      have zm15 := m15.size
      refine ⟨GS12, ?_⟩
      refine Dq (i := 7) rfl GS12 (fun _ _ => Y_index U24 sz3 rfl rfl (by first | assumption | omega)) ?_
      refine D_1 (i := 8) (by kernel_rfl) ?_
      obtain ⟨e1, he1, he1r⟩ := Blk.pickR (l := [-1, (ns.length : Int) + 1]) (lo := -1) (hi := 301) B14 (k := k3) (by intro x hx; simp only [List.mem_cons, List.not_mem_nil, or_false] at hx; omega) (by show k3 < 2; omega)
      refine E_val (i := 8) rfl (Y_load U3 rfl rfl he1) GS12 ?_
      refine Dq (i := 9) rfl GS12 (fun _ _ => Y_field U42 rfl fz42_2 (by decide) rfl) ?_
      refine D_1 (i := 10) (by kernel_rfl) ?_
      refine E_stM (pre := [_, _, _]) (old := [_]) (post := []) (vs := [_]) (i := 10) rfl sz3 rfl rfl rfl (by first | rfl | assumption) B4 rfl rfl ?_
      intro w17 m17 X17
      replace B4 := Blk.eq (ys := [_, _, _, _]) X17 rfl
      clear X17
      replace G := Mod.trans' G m17 (fun _ h _ => h) (fun i h hl => by first | exact h | omega | (dsimp only at h ⊢; omega))
      replace GS12 := GS12.trn m17
      replace hKA := hKA.mod m17 (by intro k hk h; first | omega | (dsimp only at hk h; omega) | (dsimp only at hk; omega) | (exact absurd h.1 hk.1) | (rw [h] at hk; exact absurd hpS.1 hk.1))
      replace hKB := hKB.mod m17 (by intro k hk h; first | omega | (dsimp only at hk h; omega) | (dsimp only at hk; omega) | (exact absurd h.1 hk.1) | (rw [h] at hk; exact absurd hpS.1 hk.1))
      replace hKC := hKC.mod m17 (by intro k hk h; first | omega | (dsimp only at hk h; omega) | (dsimp only at hk; omega) | (exact absurd h.1 hk.1) | (rw [h] at hk; exact absurd hpS.1 hk.1))
      replace RD := RD.mod m17 (by intro k hk h; first | omega | (dsimp only at hk h; omega) | (dsimp only at hk; omega) | (exact absurd h.1 hk.1) | (rw [h] at hk; exact absurd hpS.1 hk.1))
      replace B1 := B1.mod m17 (by intro h; first | omega | (dsimp only at h; omega) | (exact absurd h.1 hk.1) | (rw [h] at hk; exact absurd hpS.1 hk.1))
      replace B14 := B14.mod m17 (by intro h; first | omega | (dsimp only at h; omega) | (exact absurd h.1 hk.1) | (rw [h] at hk; exact absurd hpS.1 hk.1))
      have zm17 := m17.size
      refine ⟨GS12, ?_⟩
      refine D_en (by kernel_rfl) rfl rfl ?_
      refine ib_n ?_
      refine th_n (hK8 _ _ ?_)
      clear hK8 K8
      refine wp_seq_k fun K12 hK12 => ?_
      refine Sb 66 rfl ?_
      refine S_val (Y_loadS U42 rfl sz42 rfl (B4.row (by rfl))) ?_
      refine S_stM (pre := []) (old := [_, _, _, _]) (post := []) (vs := [_, _, _, _]) sz42 rfl rfl rfl (by first | rfl | assumption) B1 rfl rfl ?_
      intro w18 m18 X18
      replace B1 := Blk.eq (ys := [_, _, _, _]) X18 rfl
      clear X18
      replace G := Mod.trans' G m18 (fun _ h _ => h) (fun i h hl => by first | exact h | omega | (dsimp only at h ⊢; omega))
      replace hKA := hKA.mod m18 (by intro k hk h; first | omega | (dsimp only at hk h; omega) | (dsimp only at hk; omega) | (exact absurd h.1 hk.1) | (rw [h] at hk; exact absurd hpS.1 hk.1))
      replace hKB := hKB.mod m18 (by intro k hk h; first | omega | (dsimp only at hk h; omega) | (dsimp only at hk; omega) | (exact absurd h.1 hk.1) | (rw [h] at hk; exact absurd hpS.1 hk.1))
      replace hKC := hKC.mod m18 (by intro k hk h; first | omega | (dsimp only at hk h; omega) | (dsimp only at hk; omega) | (exact absurd h.1 hk.1) | (rw [h] at hk; exact absurd hpS.1 hk.1))
      replace RD := RD.mod m18 (by intro k hk h; first | omega | (dsimp only at hk h; omega) | (dsimp only at hk; omega) | (exact absurd h.1 hk.1) | (rw [h] at hk; exact absurd hpS.1 hk.1))
      replace B4 := B4.mod m18 (by intro h; first | omega | (dsimp only at h; omega) | (exact absurd h.1 hk.1) | (rw [h] at hk; exact absurd hpS.1 hk.1))
      replace B14 := B14.mod m18 (by intro h; first | omega | (dsimp only at h; omega) | (exact absurd h.1 hk.1) | (rw [h] at hk; exact absurd hpS.1 hk.1))
      have zm18 := m18.size
      refine S_nl rfl rfl ?_
      refine th_n (hK12 _ _ ?_)
      clear hK12 K12
      refine wp_ret ?_
      refine ret_rc (cs := [_, _, _, _]) U42 rfl sz42 rfl rfl (B1.row (by rfl)) ?_
      first | exact ⟨hK, ns, y, _, _, _, _, _, _, _, _, _, _, rfl, rfl, rfl, rfl, hzK, by omega, ⟨by omega, by omega⟩, hKA.weak (fun i hi => by have h9 := hi.2; omega), hKB.weak (fun i hi => by have h9 := hi.2; omega), hKC.r1.weak (fun i hi => by first | omega | (dsimp only at hi; omega)), by omega, RD, G⟩ | exact ⟨hK, ns, e1, _, _, _, _, _, _, _, _, _, _, rfl, rfl, rfl, rfl, hzK, by omega, ⟨by omega, by omega⟩, hKA.weak (fun i hi => by have h9 := hi.2; omega), hKB.weak (fun i hi => by have h9 := hi.2; omega), hKC.r1.weak (fun i hi => by first | omega | (dsimp only at hi; omega)), by omega, RD, G⟩ | exact ⟨hK, ns.set k3 _, y, _, _, _, _, _, _, _, _, _, _, rfl, rfl, rfl, (List.length_set ..).symm, hzK, by rw [List.length_set]; omega, ⟨by omega, by omega⟩, hKA.weak (fun i hi => by have h9 := hi.2; omega), hKB.weak (fun i hi => by have h9 := hi.2; omega), hKC.r1.weak (fun i hi => by first | omega | (dsimp only at hi; omega)), by omega, RD, G⟩ | exact ⟨hK, ns ++ [false], y, _, _, _, _, _, _, _, _, _, _, rfl, rfl, rfl, by simp, hzK, by simp; omega, ⟨by omega, by omega⟩, hKA.weak (fun i hi => by have h9 := hi.2; omega), hKB.weak (fun i hi => by have h9 := hi.2; omega), hKC.r1.weak (fun i hi => by first | omega | (dsimp only at hi; omega)), by omega, RD, G⟩
     refine E_call rfl rfl en50 (spec_l20Rd_pick_c _ _ _ _ RD (by omega) (by omega)) ?_
     rintro v19 w19 ⟨k19, rfl, hk19, RD19, m19⟩
     obtain ⟨k3, rfl⟩ : ∃ x, x = k19 := ⟨_, rfl⟩
     have hk3 := hk19 (by decide)
     replace RD := RD19
     clear RD19
     replace G := Mod.trans' G m19 (fun _ h _ => h) (fun i h hl => by first | exact h | omega | (dsimp only at h ⊢; omega))
     replace GS12 := GS12.trn m19
     replace hKA := hKA.mod m19 (by intro k hk h; first | omega | (dsimp only at hk h; omega) | (dsimp only at hk; omega) | (exact absurd h.1 hk.1) | (rw [h] at hk; exact absurd hpS.1 hk.1))
     replace hKB := hKB.mod m19 (by intro k hk h; first | omega | (dsimp only at hk h; omega) | (dsimp only at hk; omega) | (exact absurd h.1 hk.1) | (rw [h] at hk; exact absurd hpS.1 hk.1))
     replace hKC := hKC.mod m19 (by intro k hk h; first | omega | (dsimp only at hk h; omega) | (dsimp only at hk; omega) | (exact absurd h.1 hk.1) | (rw [h] at hk; exact absurd hpS.1 hk.1))
     replace B1 := B1.mod m19 (by intro h; first | omega | (dsimp only at h; omega) | (exact absurd h.1 hk.1) | (rw [h] at hk; exact absurd hpS.1 hk.1))
     replace B4 := B4.mod m19 (by intro h; first | omega | (dsimp only at h; omega) | (exact absurd h.1 hk.1) | (rw [h] at hk; exact absurd hpS.1 hk.1))
     have zm19 := m19.size
     refine ⟨GS12, ?_⟩
     refine D_1 (i := 4) (by kernel_rfl) ?_
     refine E_bsN (cs := [_, _]) (i := 4) rfl U24 zr3 sz3 rfl rfl ?_
     intro b20 w20 fb20 g20 B20
     refine ⟨GS12.grow g20, ?_⟩
     have lb20 := B20.lt
     replace hKA := hKA.grow g20
     replace hKB := hKB.grow g20
     replace hKC := hKC.grow g20
     replace RD := RD.grow g20
     replace G := G.grow g20
     replace GS12 := GS12.grow g20
     replace B1 := B1.grow g20
     replace B4 := B4.grow g20
     have zg20 := g20.size
     refine Dq (i := 7) rfl GS12 (fun _ _ => Y_index U24 sz3 rfl rfl (by first | assumption | omega)) ?_
     refine D_1 (i := 8) (by kernel_rfl) ?_
     obtain ⟨e1, he1, he1r⟩ := Blk.pickR (l := [-1, (ns.length : Int) + 1]) (lo := -1) (hi := 301) B20 (k := k3) (by intro x hx; simp only [List.mem_cons, List.not_mem_nil, or_false] at hx; omega) (by show k3 < 2; omega)
     refine E_val (i := 8) rfl (Y_load U3 rfl rfl he1) GS12 ?_
     refine Dq (i := 9) rfl GS12 (fun _ _ => Y_field U42 rfl fz42_2 (by decide) rfl) ?_
     refine D_1 (i := 10) (by kernel_rfl) ?_
     refine E_stM (pre := [_, _, _]) (old := [_]) (post := []) (vs := [_]) (i := 10) rfl sz3 rfl rfl rfl (by first | rfl | assumption) B4 rfl rfl ?_
     intro w22 m22 X22
     replace B4 := Blk.eq (ys := [_, _, _, _]) X22 rfl
     clear X22
     replace G := Mod.trans' G m22 (fun _ h _ => h) (fun i h hl => by first | exact h | omega | (dsimp only at h ⊢; omega))
     replace GS12 := GS12.trn m22
     replace hKA := hKA.mod m22 (by intro k hk h; first | omega | (dsimp only at hk h; omega) | (dsimp only at hk; omega) | (exact absurd h.1 hk.1) | (rw [h] at hk; exact absurd hpS.1 hk.1))
     replace hKB := hKB.mod m22 (by intro k hk h; first | omega | (dsimp only at hk h; omega) | (dsimp only at hk; omega) | (exact absurd h.1 hk.1) | (rw [h] at hk; exact absurd hpS.1 hk.1))
     replace hKC := hKC.mod m22 (by intro k hk h; first | omega | (dsimp only at hk h; omega) | (dsimp only at hk; omega) | (exact absurd h.1 hk.1) | (rw [h] at hk; exact absurd hpS.1 hk.1))
     replace RD := RD.mod m22 (by intro k hk h; first | omega | (dsimp only at hk h; omega) | (dsimp only at hk; omega) | (exact absurd h.1 hk.1) | (rw [h] at hk; exact absurd hpS.1 hk.1))
     replace B1 := B1.mod m22 (by intro h; first | omega | (dsimp only at h; omega) | (exact absurd h.1 hk.1) | (rw [h] at hk; exact absurd hpS.1 hk.1))
     replace B20 := B20.mod m22 (by intro h; first | omega | (dsimp only at h; omega) | (exact absurd h.1 hk.1) | (rw [h] at hk; exact absurd hpS.1 hk.1))
     have zm22 := m22.size
     refine ⟨GS12, ?_⟩
     refine D_en (by kernel_rfl) rfl rfl ?_
     refine ib_n ?_
     refine th_n (hK8 _ _ ?_)
     clear hK8 K8
     refine wp_seq_k fun K13 hK13 => ?_
     refine Sb 66 rfl ?_
     refine S_val (Y_loadS U42 rfl sz42 rfl (B4.row (by rfl))) ?_
     refine S_stM (pre := []) (old := [_, _, _, _]) (post := []) (vs := [_, _, _, _]) sz42 rfl rfl rfl (by first | rfl | assumption) B1 rfl rfl ?_
     intro w23 m23 X23
     replace B1 := Blk.eq (ys := [_, _, _, _]) X23 rfl
     clear X23
     replace G := Mod.trans' G m23 (fun _ h _ => h) (fun i h hl => by first | exact h | omega | (dsimp only at h ⊢; omega))
     replace hKA := hKA.mod m23 (by intro k hk h; first | omega | (dsimp only at hk h; omega) | (dsimp only at hk; omega) | (exact absurd h.1 hk.1) | (rw [h] at hk; exact absurd hpS.1 hk.1))
     replace hKB := hKB.mod m23 (by intro k hk h; first | omega | (dsimp only at hk h; omega) | (dsimp only at hk; omega) | (exact absurd h.1 hk.1) | (rw [h] at hk; exact absurd hpS.1 hk.1))
     replace hKC := hKC.mod m23 (by intro k hk h; first | omega | (dsimp only at hk h; omega) | (dsimp only at hk; omega) | (exact absurd h.1 hk.1) | (rw [h] at hk; exact absurd hpS.1 hk.1))
     replace RD := RD.mod m23 (by intro k hk h; first | omega | (dsimp only at hk h; omega) | (dsimp only at hk; omega) | (exact absurd h.1 hk.1) | (rw [h] at hk; exact absurd hpS.1 hk.1))
     replace B4 := B4.mod m23 (by intro h; first | omega | (dsimp only at h; omega) | (exact absurd h.1 hk.1) | (rw [h] at hk; exact absurd hpS.1 hk.1))
     replace B20 := B20.mod m23 (by intro h; first | omega | (dsimp only at h; omega) | (exact absurd h.1 hk.1) | (rw [h] at hk; exact absurd hpS.1 hk.1))
     have zm23 := m23.size
     refine S_nl rfl rfl ?_
     refine th_n (hK13 _ _ ?_)
     clear hK13 K13
     refine wp_ret ?_
     refine ret_rc (cs := [_, _, _, _]) U42 rfl sz42 rfl rfl (B1.row (by rfl)) ?_
     first | exact ⟨hK, ns, y, _, _, _, _, _, _, _, _, _, _, rfl, rfl, rfl, rfl, hzK, by omega, ⟨by omega, by omega⟩, hKA.weak (fun i hi => by have h9 := hi.2; omega), hKB.weak (fun i hi => by have h9 := hi.2; omega), hKC.r1.weak (fun i hi => by first | omega | (dsimp only at hi; omega)), by omega, RD, G⟩ | exact ⟨hK, ns, e1, _, _, _, _, _, _, _, _, _, _, rfl, rfl, rfl, rfl, hzK, by omega, ⟨by omega, by omega⟩, hKA.weak (fun i hi => by have h9 := hi.2; omega), hKB.weak (fun i hi => by have h9 := hi.2; omega), hKC.r1.weak (fun i hi => by first | omega | (dsimp only at hi; omega)), by omega, RD, G⟩ | exact ⟨hK, ns.set k3 _, y, _, _, _, _, _, _, _, _, _, _, rfl, rfl, rfl, (List.length_set ..).symm, hzK, by rw [List.length_set]; omega, ⟨by omega, by omega⟩, hKA.weak (fun i hi => by have h9 := hi.2; omega), hKB.weak (fun i hi => by have h9 := hi.2; omega), hKC.r1.weak (fun i hi => by first | omega | (dsimp only at hi; omega)), by omega, RD, G⟩ | exact ⟨hK, ns ++ [false], y, _, _, _, _, _, _, _, _, _, _, rfl, rfl, rfl, by simp, hzK, by simp; omega, ⟨by omega, by omega⟩, hKA.weak (fun i hi => by have h9 := hi.2; omega), hKB.weak (fun i hi => by have h9 := hi.2; omega), hKC.r1.weak (fun i hi => by first | omega | (dsimp only at hi; omega)), by omega, RD, G⟩
    refine E_call rfl rfl en50 (spec_l20Rd_pick_c _ _ _ _ RD (by omega) (by omega)) ?_
    rintro v24 w24 ⟨k24, rfl, hk24, RD24, m24⟩
    obtain ⟨k3, rfl⟩ : ∃ x, x = k24 := ⟨_, rfl⟩
    have hk3 := hk24 (by decide)
    replace RD := RD24
    clear RD24
    replace G := Mod.trans' G m24 (fun _ h _ => h) (fun i h hl => by first | exact h | omega | (dsimp only at h ⊢; omega))
    replace GS12 := GS12.trn m24
    replace hKA := hKA.mod m24 (by intro k hk h; first | omega | (dsimp only at hk h; omega) | (dsimp only at hk; omega) | (exact absurd h.1 hk.1) | (rw [h] at hk; exact absurd hpS.1 hk.1))
    replace hKB := hKB.mod m24 (by intro k hk h; first | omega | (dsimp only at hk h; omega) | (dsimp only at hk; omega) | (exact absurd h.1 hk.1) | (rw [h] at hk; exact absurd hpS.1 hk.1))
    replace hKC := hKC.mod m24 (by intro k hk h; first | omega | (dsimp only at hk h; omega) | (dsimp only at hk; omega) | (exact absurd h.1 hk.1) | (rw [h] at hk; exact absurd hpS.1 hk.1))
    replace B1 := B1.mod m24 (by intro h; first | omega | (dsimp only at h; omega) | (exact absurd h.1 hk.1) | (rw [h] at hk; exact absurd hpS.1 hk.1))
    replace B4 := B4.mod m24 (by intro h; first | omega | (dsimp only at h; omega) | (exact absurd h.1 hk.1) | (rw [h] at hk; exact absurd hpS.1 hk.1))
    have zm24 := m24.size
    refine ⟨GS12, ?_⟩
    refine D_1 (i := 1) (by kernel_rfl) ?_
    refine E_val (i := 1) rfl (Y_load U40 rfl rfl (B4.at (by rfl))) GS12 ?_
    refine Dq (i := 2) rfl GS12 (fun _ _ => Y_len U40 rfl) ?_
    refine Dq (i := 3) rfl GS12 (fun _ _ => Y_add (c := (ns.length : Int) + 1) rfl rfl rfl (by omega) (by omega)) ?_
    refine D_1 (i := 4) (by kernel_rfl) ?_
    refine E_bsN (cs := [_, _]) (i := 4) rfl U24 zr3 sz3 rfl rfl ?_
    intro b26 w26 fb26 g26 B26
    refine ⟨GS12.grow g26, ?_⟩
    have lb26 := B26.lt
    replace hKA := hKA.grow g26
    replace hKB := hKB.grow g26
    replace hKC := hKC.grow g26
    replace RD := RD.grow g26
    replace G := G.grow g26
    replace GS12 := GS12.grow g26
    replace B1 := B1.grow g26
    replace B4 := B4.grow g26
    have zg26 := g26.size
    refine Dq (i := 7) rfl GS12 (fun _ _ => Y_index U24 sz3 rfl rfl (by first | assumption | omega)) ?_
    refine D_1 (i := 8) (by kernel_rfl) ?_
    obtain ⟨e1, he1, he1r⟩ := Blk.pickR (l := [-1, (ns.length : Int) + 1]) (lo := -1) (hi := 301) B26 (k := k3) (by intro x hx; simp only [List.mem_cons, List.not_mem_nil, or_false] at hx; omega) (by show k3 < 2; omega)
    refine E_val (i := 8) rfl (Y_load U3 rfl rfl he1) GS12 ?_
    refine Dq (i := 9) rfl GS12 (fun _ _ => Y_field U42 rfl fz42_2 (by decide) rfl) ?_
    refine D_1 (i := 10) (by kernel_rfl) ?_
    refine E_stM (pre := [_, _, _]) (old := [_]) (post := []) (vs := [_]) (i := 10) rfl sz3 rfl rfl rfl (by first | rfl | assumption) B4 rfl rfl ?_
    intro w28 m28 X28
    replace B4 := Blk.eq (ys := [_, _, _, _]) X28 rfl
    clear X28
    replace G := Mod.trans' G m28 (fun _ h _ => h) (fun i h hl => by first | exact h | omega | (dsimp only at h ⊢; omega))
    replace GS12 := GS12.trn m28
    replace hKA := hKA.mod m28 (by intro k hk h; first | omega | (dsimp only at hk h; omega) | (dsimp only at hk; omega) | (exact absurd h.1 hk.1) | (rw [h] at hk; exact absurd hpS.1 hk.1))
    replace hKB := hKB.mod m28 (by intro k hk h; first | omega | (dsimp only at hk h; omega) | (dsimp only at hk; omega) | (exact absurd h.1 hk.1) | (rw [h] at hk; exact absurd hpS.1 hk.1))
    replace hKC := hKC.mod m28 (by intro k hk h; first | omega | (dsimp only at hk h; omega) | (dsimp only at hk; omega) | (exact absurd h.1 hk.1) | (rw [h] at hk; exact absurd hpS.1 hk.1))
    replace RD := RD.mod m28 (by intro k hk h; first | omega | (dsimp only at hk h; omega) | (dsimp only at hk; omega) | (exact absurd h.1 hk.1) | (rw [h] at hk; exact absurd hpS.1 hk.1))
    replace B1 := B1.mod m28 (by intro h; first | omega | (dsimp only at h; omega) | (exact absurd h.1 hk.1) | (rw [h] at hk; exact absurd hpS.1 hk.1))
    replace B26 := B26.mod m28 (by intro h; first | omega | (dsimp only at h; omega) | (exact absurd h.1 hk.1) | (rw [h] at hk; exact absurd hpS.1 hk.1))
    have zm28 := m28.size
    refine ⟨GS12, ?_⟩
    refine D_en (by kernel_rfl) rfl rfl ?_
    refine ib_n ?_
    refine th_n (hK8 _ _ ?_)
    clear hK8 K8
    refine wp_seq_k fun K14 hK14 => ?_
    refine Sb 66 rfl ?_
    refine S_val (Y_loadS U42 rfl sz42 rfl (B4.row (by rfl))) ?_
    refine S_stM (pre := []) (old := [_, _, _, _]) (post := []) (vs := [_, _, _, _]) sz42 rfl rfl rfl (by first | rfl | assumption) B1 rfl rfl ?_
    intro w29 m29 X29
    replace B1 := Blk.eq (ys := [_, _, _, _]) X29 rfl
    clear X29
    replace G := Mod.trans' G m29 (fun _ h _ => h) (fun i h hl => by first | exact h | omega | (dsimp only at h ⊢; omega))
    replace hKA := hKA.mod m29 (by intro k hk h; first | omega | (dsimp only at hk h; omega) | (dsimp only at hk; omega) | (exact absurd h.1 hk.1) | (rw [h] at hk; exact absurd hpS.1 hk.1))
    replace hKB := hKB.mod m29 (by intro k hk h; first | omega | (dsimp only at hk h; omega) | (dsimp only at hk; omega) | (exact absurd h.1 hk.1) | (rw [h] at hk; exact absurd hpS.1 hk.1))
    replace hKC := hKC.mod m29 (by intro k hk h; first | omega | (dsimp only at hk h; omega) | (dsimp only at hk; omega) | (exact absurd h.1 hk.1) | (rw [h] at hk; exact absurd hpS.1 hk.1))
    replace RD := RD.mod m29 (by intro k hk h; first | omega | (dsimp only at hk h; omega) | (dsimp only at hk; omega) | (exact absurd h.1 hk.1) | (rw [h] at hk; exact absurd hpS.1 hk.1))
    replace B4 := B4.mod m29 (by intro h; first | omega | (dsimp only at h; omega) | (exact absurd h.1 hk.1) | (rw [h] at hk; exact absurd hpS.1 hk.1))
    replace B26 := B26.mod m29 (by intro h; first | omega | (dsimp only at h; omega) | (exact absurd h.1 hk.1) | (rw [h] at hk; exact absurd hpS.1 hk.1))
    have zm29 := m29.size
    refine S_nl rfl rfl ?_
    refine th_n (hK14 _ _ ?_)
    clear hK14 K14
    refine wp_ret ?_
    refine ret_rc (cs := [_, _, _, _]) U42 rfl sz42 rfl rfl (B1.row (by rfl)) ?_
    first | exact ⟨hK, ns, y, _, _, _, _, _, _, _, _, _, _, rfl, rfl, rfl, rfl, hzK, by omega, ⟨by omega, by omega⟩, hKA.weak (fun i hi => by have h9 := hi.2; omega), hKB.weak (fun i hi => by have h9 := hi.2; omega), hKC.r1.weak (fun i hi => by first | omega | (dsimp only at hi; omega)), by omega, RD, G⟩ | exact ⟨hK, ns, e1, _, _, _, _, _, _, _, _, _, _, rfl, rfl, rfl, rfl, hzK, by omega, ⟨by omega, by omega⟩, hKA.weak (fun i hi => by have h9 := hi.2; omega), hKB.weak (fun i hi => by have h9 := hi.2; omega), hKC.r1.weak (fun i hi => by first | omega | (dsimp only at hi; omega)), by omega, RD, G⟩ | exact ⟨hK, ns.set k3 _, y, _, _, _, _, _, _, _, _, _, _, rfl, rfl, rfl, (List.length_set ..).symm, hzK, by rw [List.length_set]; omega, ⟨by omega, by omega⟩, hKA.weak (fun i hi => by have h9 := hi.2; omega), hKB.weak (fun i hi => by have h9 := hi.2; omega), hKC.r1.weak (fun i hi => by first | omega | (dsimp only at hi; omega)), by omega, RD, G⟩ | exact ⟨hK, ns ++ [false], y, _, _, _, _, _, _, _, _, _, _, rfl, rfl, rfl, by simp, hzK, by simp; omega, ⟨by omega, by omega⟩, hKA.weak (fun i hi => by have h9 := hi.2; omega), hKB.weak (fun i hi => by have h9 := hi.2; omega), hKC.r1.weak (fun i hi => by first | omega | (dsimp only at hi; omega)), by omega, RD, G⟩
   replace hb3 := nb_tf hb3
   refine wp_seq_k fun K15 hK15 => ?_
   refine Sb 66 rfl ?_
   refine S_val (Y_eql rfl rfl) ?_
   refine Sas rfl ?_
   refine S_nl rfl rfl ?_
   refine th_n (hK15 _ _ ?_)
   clear hK15 K15
   refine S_if rfl (fun hb4 => ?_) (fun hb4 => ?_)
   ·
    replace hb4 := nb_tt hb4
    obtain ⟨loZ, hloZ⟩ : ∃ x, x = w11.heap.size := ⟨_, rfl⟩
    refine Sb 66 rfl ?_
    refine S_val (Y_field U42 rfl fz42_1 (by decide) rfl) ?_
    refine S_val (Y_load U40 rfl rfl (B4.at (by rfl))) ?_
    refine S_bs1 (cs := [_]) U40 zr4 sz4 rfl rfl rfl ?_
    intro b30 w30 fb30 g30 B30
    have lb30 := B30.lt
    replace hKA := hKA.grow g30
    replace hKB := hKB.grow g30
    replace hKC := hKC.grow g30
    replace RD := RD.grow g30
    replace G := G.grow g30
    replace B1 := B1.grow g30
    replace B4 := B4.grow g30
    have zg30 := g30.size
    refine S_app U40 zr4 sz4 by4 rfl rfl hKC rfl (Src.blk B30) (by simp [Value.oneCell']) (by omega) (Pr' := (fun i => (P2 i ∧ b1 < i ∧ i ≠ b4 ∧ i < hiK) ∨ loZ ≤ i)) (fun i hi => .inl hi) (by first | omega | (dsimp only; omega)) ?_
    intro A31 cap31 w31 X31 m31
    have hKC : OW (fun i => (P2 i ∧ b1 < i ∧ i ≠ b4 ∧ i < hiK) ∨ loZ ≤ i) w31 4 1 A31 (ns.length + 1) cap31 (bools (ns ++ [false])) := by rw [← bools_app]; exact X31
    clear X31
    replace G := Mod.trans' G m31 (fun _ h _ => h) (fun i h hl => by first | exact h | omega | (dsimp only at h ⊢; omega))
    replace hKA := hKA.mod m31 (by intro k hk h; first | omega | (dsimp only at hk h; omega) | (dsimp only at hk; omega) | (exact absurd h.1 hk.1) | (rw [h] at hk; exact absurd hpS.1 hk.1))
    replace hKB := hKB.mod m31 (by intro k hk h; first | omega | (dsimp only at hk h; omega) | (dsimp only at hk; omega) | (exact absurd h.1 hk.1) | (rw [h] at hk; exact absurd hpS.1 hk.1))
    replace RD := RD.mod m31 (by intro k hk h; first | omega | (dsimp only at hk h; omega) | (dsimp only at hk; omega) | (exact absurd h.1 hk.1) | (rw [h] at hk; exact absurd hpS.1 hk.1))
    replace B1 := B1.mod m31 (by intro h; first | omega | (dsimp only at h; omega) | (exact absurd h.1 hk.1) | (rw [h] at hk; exact absurd hpS.1 hk.1))
    replace B4 := B4.mod m31 (by intro h; first | omega | (dsimp only at h; omega) | (exact absurd h.1 hk.1) | (rw [h] at hk; exact absurd hpS.1 hk.1))
    have zm31 := m31.size
    refine S_val (Y_field U42 rfl fz42_1 (by decide) rfl) ?_
    refine S_stM (pre := [_, _]) (old := [_]) (post := [_]) (vs := [_]) sz40 rfl rfl rfl (by first | rfl | assumption) B4 rfl rfl ?_
    intro w32 m32 X32
    replace B4 := Blk.eq (ys := [_, _, _, _]) X32 rfl
    clear X32
    replace G := Mod.trans' G m32 (fun _ h _ => h) (fun i h hl => by first | exact h | omega | (dsimp only at h ⊢; omega))
    replace hKA := hKA.mod m32 (by intro k hk h; first | omega | (dsimp only at hk h; omega) | (dsimp only at hk; omega) | (exact absurd h.1 hk.1) | (rw [h] at hk; exact absurd hpS.1 hk.1))
    replace hKB := hKB.mod m32 (by intro k hk h; first | omega | (dsimp only at hk h; omega) | (dsimp only at hk; omega) | (exact absurd h.1 hk.1) | (rw [h] at hk; exact absurd hpS.1 hk.1))
    replace RD := RD.mod m32 (by intro k hk h; first | omega | (dsimp only at hk h; omega) | (dsimp only at hk; omega) | (exact absurd h.1 hk.1) | (rw [h] at hk; exact absurd hpS.1 hk.1))
    replace hKC := hKC.mod m32 (by intro k hk h; first | omega | (dsimp only at hk h; omega) | (dsimp only at hk; omega) | (exact absurd h.1 hk.1) | (rw [h] at hk; exact absurd hpS.1 hk.1))
    replace B1 := B1.mod m32 (by intro h; first | omega | (dsimp only at h; omega) | (exact absurd h.1 hk.1) | (rw [h] at hk; exact absurd hpS.1 hk.1))
    have zm32 := m32.size
    refine S_nl rfl rfl ?_
    refine ib_n ?_
    refine th_n (hK8 _ _ ?_)
    clear hK8 K8
    refine wp_seq_k fun K16 hK16 => ?_
    refine Sb 66 rfl ?_
    refine S_val (Y_loadS U42 rfl sz42 rfl (B4.row (by rfl))) ?_
    refine S_stM (pre := []) (old := [_, _, _, _]) (post := []) (vs := [_, _, _, _]) sz42 rfl rfl rfl (by first | rfl | assumption) B1 rfl rfl ?_
    intro w33 m33 X33
    replace B1 := Blk.eq (ys := [_, _, _, _]) X33 rfl
    clear X33
    replace G := Mod.trans' G m33 (fun _ h _ => h) (fun i h hl => by first | exact h | omega | (dsimp only at h ⊢; omega))
    replace hKA := hKA.mod m33 (by intro k hk h; first | omega | (dsimp only at hk h; omega) | (dsimp only at hk; omega) | (exact absurd h.1 hk.1) | (rw [h] at hk; exact absurd hpS.1 hk.1))
    replace hKB := hKB.mod m33 (by intro k hk h; first | omega | (dsimp only at hk h; omega) | (dsimp only at hk; omega) | (exact absurd h.1 hk.1) | (rw [h] at hk; exact absurd hpS.1 hk.1))
    replace RD := RD.mod m33 (by intro k hk h; first | omega | (dsimp only at hk h; omega) | (dsimp only at hk; omega) | (exact absurd h.1 hk.1) | (rw [h] at hk; exact absurd hpS.1 hk.1))
    replace hKC := hKC.mod m33 (by intro k hk h; first | omega | (dsimp only at hk h; omega) | (dsimp only at hk; omega) | (exact absurd h.1 hk.1) | (rw [h] at hk; exact absurd hpS.1 hk.1))
    replace B4 := B4.mod m33 (by intro h; first | omega | (dsimp only at h; omega) | (exact absurd h.1 hk.1) | (rw [h] at hk; exact absurd hpS.1 hk.1))
    have zm33 := m33.size
    refine S_nl rfl rfl ?_
    refine th_n (hK16 _ _ ?_)
    clear hK16 K16
    refine wp_ret ?_
    refine ret_rc (cs := [_, _, _, _]) U42 rfl sz42 rfl rfl (B1.row (by rfl)) ?_
    first | exact ⟨hK, ns, y, _, _, _, _, _, _, _, _, _, _, rfl, rfl, rfl, rfl, hzK, by omega, ⟨by omega, by omega⟩, hKA.weak (fun i hi => by have h9 := hi.2; omega), hKB.weak (fun i hi => by have h9 := hi.2; omega), hKC.r1.weak (fun i hi => by first | omega | (dsimp only at hi; omega)), by omega, RD, G⟩ | exact ⟨hK, ns, e1, _, _, _, _, _, _, _, _, _, _, rfl, rfl, rfl, rfl, hzK, by omega, ⟨by omega, by omega⟩, hKA.weak (fun i hi => by have h9 := hi.2; omega), hKB.weak (fun i hi => by have h9 := hi.2; omega), hKC.r1.weak (fun i hi => by first | omega | (dsimp only at hi; omega)), by omega, RD, G⟩ | exact ⟨hK, ns.set k3 _, y, _, _, _, _, _, _, _, _, _, _, rfl, rfl, rfl, (List.length_set ..).symm, hzK, by rw [List.length_set]; omega, ⟨by omega, by omega⟩, hKA.weak (fun i hi => by have h9 := hi.2; omega), hKB.weak (fun i hi => by have h9 := hi.2; omega), hKC.r1.weak (fun i hi => by first | omega | (dsimp only at hi; omega)), by omega, RD, G⟩ | exact ⟨hK, ns ++ [false], y, _, _, _, _, _, _, _, _, _, _, rfl, rfl, rfl, by simp, hzK, by simp; omega, ⟨by omega, by omega⟩, hKA.weak (fun i hi => by have h9 := hi.2; omega), hKB.weak (fun i hi => by have h9 := hi.2; omega), hKC.r1.weak (fun i hi => by first | omega | (dsimp only at hi; omega)), by omega, RD, G⟩
   replace hb4 := nb_tf hb4
   refine wp_seq_k fun K17 hK17 => ?_
   refine Sb 66 rfl ?_
   refine S_val (Y_field U42 rfl fz42_1 (by decide) rfl) ?_
   refine S_val (Y_load U40 rfl rfl (B4.at (by rfl))) ?_
   refine S_val (Y_len U40 rfl) ?_
   refine S_val (Y_gtr rfl rfl) ?_
   refine S_nl rfl rfl ?_
   refine th_n (hK17 _ _ ?_)
   clear hK17 K17
   refine S_if rfl (fun hb5 => ?_) (fun hb5 => ?_)
   ·
    replace hb5 := nb_tt hb5
    refine wp_seq_k fun K18 hK18 => ?_
    refine Sb 66 rfl ?_
    refine Smv rfl ?_
    refine S_val (Y_field U42 rfl fz42_1 (by decide) rfl) ?_
    refine S_val (Y_load U40 rfl rfl (B4.at (by rfl))) ?_
    refine S_val (Y_len U40 rfl) ?_
    refine S_call rfl en50 (spec_l20Rd_pick_c _ _ _ _ RD (by omega) (by omega)) ?_
    rintro v34 w34 ⟨k34, rfl, hk34, RD34, m34⟩
    obtain ⟨k3, rfl⟩ : ∃ x, x = k34 := ⟨_, rfl⟩
    have hk3 := hk34 (by omega)
    replace RD := RD34
    clear RD34
    replace G := Mod.trans' G m34 (fun _ h _ => h) (fun i h hl => by first | exact h | omega | (dsimp only at h ⊢; omega))
    replace hKA := hKA.mod m34 (by intro k hk h; first | omega | (dsimp only at hk h; omega) | (dsimp only at hk; omega) | (exact absurd h.1 hk.1) | (rw [h] at hk; exact absurd hpS.1 hk.1))
    replace hKB := hKB.mod m34 (by intro k hk h; first | omega | (dsimp only at hk h; omega) | (dsimp only at hk; omega) | (exact absurd h.1 hk.1) | (rw [h] at hk; exact absurd hpS.1 hk.1))
    replace hKC := hKC.mod m34 (by intro k hk h; first | omega | (dsimp only at hk h; omega) | (dsimp only at hk; omega) | (exact absurd h.1 hk.1) | (rw [h] at hk; exact absurd hpS.1 hk.1))
    replace B1 := B1.mod m34 (by intro h; first | omega | (dsimp only at h; omega) | (exact absurd h.1 hk.1) | (rw [h] at hk; exact absurd hpS.1 hk.1))
    replace B4 := B4.mod m34 (by intro h; first | omega | (dsimp only at h; omega) | (exact absurd h.1 hk.1) | (rw [h] at hk; exact absurd hpS.1 hk.1))
    have zm34 := m34.size
    have hk3l : k3 < ns.length := by omega
    obtain ⟨bS, postS, eS, hpS, _⟩ := hKC.blk (bools_ne (by omega))
    subst eS
    try dsimp only at hpS
    refine Sas rfl ?_
    refine S_nl rfl rfl ?_
    refine th_n (hK18 _ _ ?_)
    clear hK18 K18
    refine D_start 11 66 (fun w => Mod (fun i => i = bS) w) follows rfl rfl ?_
    intro w35 g35
    replace hKA := hKA.grow g35
    replace hKB := hKB.grow g35
    replace hKC := hKC.grow g35
    replace RD := RD.grow g35
    replace G := G.grow g35
    replace B1 := B1.grow g35
    replace B4 := B4.grow g35
    have zg35 := g35.size
    have GS35 := Mod.refl (fun i => i = bS) w35
    obtain ⟨g5, o5, e5, hp5, hc5⟩ := hKC.r1.bool (k := k3) hk3l
    cases e5
    refine Dq (i := 0) rfl GS35 (fun _ _ => Y_field U42 rfl fz42_1 (by decide) rfl) ?_
    refine Dq (i := 1) rfl GS35 (fun _ hs => Y_load U40 rfl rfl (by first | exact hs.cell (B4.at (by rfl)) (by intro h; first | omega | (dsimp only at h; omega) | (exact absurd h.1 hk.1) | (rw [h] at hk; exact absurd hpS.1 hk.1)))) ?_
    refine Dq (i := 2) rfl GS35 (fun _ _ => Y_move rfl) ?_
    refine Dq (i := 3) rfl GS35 (fun _ _ => Y_field U42 rfl fz42_1 (by decide) rfl) ?_
    refine Dq (i := 4) rfl GS35 (fun _ hs => Y_load U40 rfl rfl (by first | exact hs.cell (B4.at (by rfl)) (by intro h; first | omega | (dsimp only at h; omega) | (exact absurd h.1 hk.1) | (rw [h] at hk; exact absurd hpS.1 hk.1)))) ?_
    refine Dq (i := 5) rfl GS35 (fun _ _ => Y_move rfl) ?_
    refine Dq (i := 6) rfl GS35 (fun _ _ => Y_index U40 sz4 rfl rfl (by first | assumption | omega)) ?_
    refine D_1 (i := 7) (by kernel_rfl) ?_
    refine E_val (i := 7) rfl (Y_load U4 rfl rfl hc5) GS35 ?_
    refine Dq (i := 8) rfl GS35 (fun _ _ => Y_not rfl) ?_
    refine Dq (i := 9) rfl GS35 (fun _ _ => Y_index U40 sz4 rfl rfl (by first | assumption | omega)) ?_
    refine D_1 (i := 10) (by kernel_rfl) ?_
    refine E_of (i := 10) rfl (Ys_rowW sz4 hKC (k := k3) (by rw [bools_len]; omega) rfl rfl rfl rfl) ?_
    rintro w37 ⟨m37, hp37, OZ⟩
    try dsimp only at hp37
    replace G := Mod.trans' G m37 (fun _ h _ => h) (fun i h hl => by first | exact h | omega | (dsimp only at h ⊢; omega))
    replace GS35 := GS35.trn m37
    replace hKA := hKA.mod m37 (by intro k hk h; first | omega | (dsimp only at hk h; omega) | (dsimp only at hk; omega) | (exact absurd h.1 hk.1) | (rw [h] at hk; exact absurd hpS.1 hk.1))
    replace hKB := hKB.mod m37 (by intro k hk h; first | omega | (dsimp only at hk h; omega) | (dsimp only at hk; omega) | (exact absurd h.1 hk.1) | (rw [h] at hk; exact absurd hpS.1 hk.1))
    replace RD := RD.mod m37 (by intro k hk h; first | omega | (dsimp only at hk h; omega) | (dsimp only at hk; omega) | (exact absurd h.1 hk.1) | (rw [h] at hk; exact absurd hpS.1 hk.1))
    replace B1 := B1.mod m37 (by intro h; first | omega | (dsimp only at h; omega) | (exact absurd h.1 hk.1) | (rw [h] at hk; exact absurd hpS.1 hk.1))
    replace B4 := B4.mod m37 (by intro h; first | omega | (dsimp only at h; omega) | (exact absurd h.1 hk.1) | (rw [h] at hk; exact absurd hpS.1 hk.1))
    have zm37 := m37.size
    rw [bools_set] at OZ
    replace hKC := OZ
    clear OZ
    refine ⟨GS35, ?_⟩
    refine D_en (by kernel_rfl) rfl rfl ?_
    refine ib_n ?_
    refine th_n (hK8 _ _ ?_)
    clear hK8 K8
    refine wp_seq_k fun K19 hK19 => ?_
    refine Sb 66 rfl ?_
    refine S_val (Y_loadS U42 rfl sz42 rfl (B4.row (by rfl))) ?_
    refine S_stM (pre := []) (old := [_, _, _, _]) (post := []) (vs := [_, _, _, _]) sz42 rfl rfl rfl (by first | rfl | assumption) B1 rfl rfl ?_
    intro w38 m38 X38
    replace B1 := Blk.eq (ys := [_, _, _, _]) X38 rfl
    clear X38
    replace G := Mod.trans' G m38 (fun _ h _ => h) (fun i h hl => by first | exact h | omega | (dsimp only at h ⊢; omega))
    replace hKA := hKA.mod m38 (by intro k hk h; first | omega | (dsimp only at hk h; omega) | (dsimp only at hk; omega) | (exact absurd h.1 hk.1) | (rw [h] at hk; exact absurd hpS.1 hk.1))
    replace hKB := hKB.mod m38 (by intro k hk h; first | omega | (dsimp only at hk h; omega) | (dsimp only at hk; omega) | (exact absurd h.1 hk.1) | (rw [h] at hk; exact absurd hpS.1 hk.1))
    replace hKC := hKC.mod m38 (by intro k hk h; first | omega | (dsimp only at hk h; omega) | (dsimp only at hk; omega) | (exact absurd h.1 hk.1) | (rw [h] at hk; exact absurd hpS.1 hk.1))
    replace RD := RD.mod m38 (by intro k hk h; first | omega | (dsimp only at hk h; omega) | (dsimp only at hk; omega) | (exact absurd h.1 hk.1) | (rw [h] at hk; exact absurd hpS.1 hk.1))
    replace B4 := B4.mod m38 (by intro h; first | omega | (dsimp only at h; omega) | (exact absurd h.1 hk.1) | (rw [h] at hk; exact absurd hpS.1 hk.1))
    have zm38 := m38.size
    refine S_nl rfl rfl ?_
    refine th_n (hK19 _ _ ?_)
    clear hK19 K19
    refine wp_ret ?_
    refine ret_rc (cs := [_, _, _, _]) U42 rfl sz42 rfl rfl (B1.row (by rfl)) ?_
    first | exact ⟨hK, ns, y, _, _, _, _, _, _, _, _, _, _, rfl, rfl, rfl, rfl, hzK, by omega, ⟨by omega, by omega⟩, hKA.weak (fun i hi => by have h9 := hi.2; omega), hKB.weak (fun i hi => by have h9 := hi.2; omega), hKC.r1.weak (fun i hi => by first | omega | (dsimp only at hi; omega)), by omega, RD, G⟩ | exact ⟨hK, ns, e1, _, _, _, _, _, _, _, _, _, _, rfl, rfl, rfl, rfl, hzK, by omega, ⟨by omega, by omega⟩, hKA.weak (fun i hi => by have h9 := hi.2; omega), hKB.weak (fun i hi => by have h9 := hi.2; omega), hKC.r1.weak (fun i hi => by first | omega | (dsimp only at hi; omega)), by omega, RD, G⟩ | exact ⟨hK, ns.set k3 _, y, _, _, _, _, _, _, _, _, _, _, rfl, rfl, rfl, (List.length_set ..).symm, hzK, by rw [List.length_set]; omega, ⟨by omega, by omega⟩, hKA.weak (fun i hi => by have h9 := hi.2; omega), hKB.weak (fun i hi => by have h9 := hi.2; omega), hKC.r1.weak (fun i hi => by first | omega | (dsimp only at hi; omega)), by omega, RD, G⟩ | exact ⟨hK, ns ++ [false], y, _, _, _, _, _, _, _, _, _, _, rfl, rfl, rfl, by simp, hzK, by simp; omega, ⟨by omega, by omega⟩, hKA.weak (fun i hi => by have h9 := hi.2; omega), hKB.weak (fun i hi => by have h9 := hi.2; omega), hKC.r1.weak (fun i hi => by first | omega | (dsimp only at hi; omega)), by omega, RD, G⟩
   replace hb5 := nb_tf hb5
   refine wp_skip ?_
   refine ib_n ?_
   refine th_n (hK8 _ _ ?_)
   clear hK8 K8
   refine wp_seq_k fun K20 hK20 => ?_
   refine Sb 66 rfl ?_
   refine S_val (Y_loadS U42 rfl sz42 rfl (B4.row (by rfl))) ?_
   refine S_stM (pre := []) (old := [_, _, _, _]) (post := []) (vs := [_, _, _, _]) sz42 rfl rfl rfl (by first | rfl | assumption) B1 rfl rfl ?_
   intro w39 m39 X39
   replace B1 := Blk.eq (ys := [_, _, _, _]) X39 rfl
   clear X39
   replace G := Mod.trans' G m39 (fun _ h _ => h) (fun i h hl => by first | exact h | omega | (dsimp only at h ⊢; omega))
   replace hKA := hKA.mod m39 (by intro k hk h; first | omega | (dsimp only at hk h; omega) | (dsimp only at hk; omega) | (exact absurd h.1 hk.1) | (rw [h] at hk; exact absurd hpS.1 hk.1))
   replace hKB := hKB.mod m39 (by intro k hk h; first | omega | (dsimp only at hk h; omega) | (dsimp only at hk; omega) | (exact absurd h.1 hk.1) | (rw [h] at hk; exact absurd hpS.1 hk.1))
   replace hKC := hKC.mod m39 (by intro k hk h; first | omega | (dsimp only at hk h; omega) | (dsimp only at hk; omega) | (exact absurd h.1 hk.1) | (rw [h] at hk; exact absurd hpS.1 hk.1))
   replace RD := RD.mod m39 (by intro k hk h; first | omega | (dsimp only at hk h; omega) | (dsimp only at hk; omega) | (exact absurd h.1 hk.1) | (rw [h] at hk; exact absurd hpS.1 hk.1))
   replace B4 := B4.mod m39 (by intro h; first | omega | (dsimp only at h; omega) | (exact absurd h.1 hk.1) | (rw [h] at hk; exact absurd hpS.1 hk.1))
   have zm39 := m39.size
   refine S_nl rfl rfl ?_
   refine th_n (hK20 _ _ ?_)
   clear hK20 K20
   refine wp_ret ?_
   refine ret_rc (cs := [_, _, _, _]) U42 rfl sz42 rfl rfl (B1.row (by rfl)) ?_
   first | exact ⟨hK, ns, y, _, _, _, _, _, _, _, _, _, _, rfl, rfl, rfl, rfl, hzK, by omega, ⟨by omega, by omega⟩, hKA.weak (fun i hi => by have h9 := hi.2; omega), hKB.weak (fun i hi => by have h9 := hi.2; omega), hKC.r1.weak (fun i hi => by first | omega | (dsimp only at hi; omega)), by omega, RD, G⟩ | exact ⟨hK, ns, e1, _, _, _, _, _, _, _, _, _, _, rfl, rfl, rfl, rfl, hzK, by omega, ⟨by omega, by omega⟩, hKA.weak (fun i hi => by have h9 := hi.2; omega), hKB.weak (fun i hi => by have h9 := hi.2; omega), hKC.r1.weak (fun i hi => by first | omega | (dsimp only at hi; omega)), by omega, RD, G⟩ | exact ⟨hK, ns.set k3 _, y, _, _, _, _, _, _, _, _, _, _, rfl, rfl, rfl, (List.length_set ..).symm, hzK, by rw [List.length_set]; omega, ⟨by omega, by omega⟩, hKA.weak (fun i hi => by have h9 := hi.2; omega), hKB.weak (fun i hi => by have h9 := hi.2; omega), hKC.r1.weak (fun i hi => by first | omega | (dsimp only at hi; omega)), by omega, RD, G⟩ | exact ⟨hK, ns ++ [false], y, _, _, _, _, _, _, _, _, _, _, rfl, rfl, rfl, by simp, hzK, by simp; omega, ⟨by omega, by omega⟩, hKA.weak (fun i hi => by have h9 := hi.2; omega), hKB.weak (fun i hi => by have h9 := hi.2; omega), hKC.r1.weak (fun i hi => by first | omega | (dsimp only at hi; omega)), by omega, RD, G⟩
  first | with_reducible (replace hb2 := nb_nf hb2) | with_reducible (replace hb2 := nb_tf hb2) | with_reducible (replace hb2 := nb_bf hb2) | skip
  refine wp_skip ?_
  refine th_n (hK8 _ _ ?_)
  clear hK8 K8
  refine wp_seq_k fun K21 hK21 => ?_
  refine Sb 66 rfl ?_
  refine S_val (Y_loadS U42 rfl sz42 rfl (B4.row (by rfl))) ?_
  refine S_stM (pre := []) (old := [_, _, _, _]) (post := []) (vs := [_, _, _, _]) sz42 rfl rfl rfl (by first | rfl | assumption) B1 rfl rfl ?_
  intro w40 m40 X40
  replace B1 := Blk.eq (ys := [_, _, _, _]) X40 rfl
  clear X40
  replace G := Mod.trans' G m40 (fun _ h _ => h) (fun i h hl => by first | exact h | omega | (dsimp only at h ⊢; omega))
  replace hKA := hKA.mod m40 (by intro k hk h; first | omega | (dsimp only at hk h; omega) | (dsimp only at hk; omega) | (exact absurd h.1 hk.1) | (rw [h] at hk; exact absurd hpS.1 hk.1))
  replace hKB := hKB.mod m40 (by intro k hk h; first | omega | (dsimp only at hk h; omega) | (dsimp only at hk; omega) | (exact absurd h.1 hk.1) | (rw [h] at hk; exact absurd hpS.1 hk.1))
  replace hKC := hKC.mod m40 (by intro k hk h; first | omega | (dsimp only at hk h; omega) | (dsimp only at hk; omega) | (exact absurd h.1 hk.1) | (rw [h] at hk; exact absurd hpS.1 hk.1))
  replace RD := RD.mod m40 (by intro k hk h; first | omega | (dsimp only at hk h; omega) | (dsimp only at hk; omega) | (exact absurd h.1 hk.1) | (rw [h] at hk; exact absurd hpS.1 hk.1))
  replace B4 := B4.mod m40 (by intro h; first | omega | (dsimp only at h; omega) | (exact absurd h.1 hk.1) | (rw [h] at hk; exact absurd hpS.1 hk.1))
  have zm40 := m40.size
  refine S_nl rfl rfl ?_
  refine th_n (hK21 _ _ ?_)
  clear hK21 K21
  refine wp_ret ?_
  refine ret_rc (cs := [_, _, _, _]) U42 rfl sz42 rfl rfl (B1.row (by rfl)) ?_
  first | exact ⟨hK, ns, y, _, _, _, _, _, _, _, _, _, _, rfl, rfl, rfl, rfl, hzK, by omega, ⟨by omega, by omega⟩, hKA.weak (fun i hi => by have h9 := hi.2; omega), hKB.weak (fun i hi => by have h9 := hi.2; omega), hKC.r1.weak (fun i hi => by first | omega | (dsimp only at hi; omega)), by omega, RD, G⟩ | exact ⟨hK, ns, e1, _, _, _, _, _, _, _, _, _, _, rfl, rfl, rfl, rfl, hzK, by omega, ⟨by omega, by omega⟩, hKA.weak (fun i hi => by have h9 := hi.2; omega), hKB.weak (fun i hi => by have h9 := hi.2; omega), hKC.r1.weak (fun i hi => by first | omega | (dsimp only at hi; omega)), by omega, RD, G⟩ | exact ⟨hK, ns.set k3 _, y, _, _, _, _, _, _, _, _, _, _, rfl, rfl, rfl, (List.length_set ..).symm, hzK, by rw [List.length_set]; omega, ⟨by omega, by omega⟩, hKA.weak (fun i hi => by have h9 := hi.2; omega), hKB.weak (fun i hi => by have h9 := hi.2; omega), hKC.r1.weak (fun i hi => by first | omega | (dsimp only at hi; omega)), by omega, RD, G⟩ | exact ⟨hK, ns ++ [false], y, _, _, _, _, _, _, _, _, _, _, rfl, rfl, rfl, by simp, hzK, by simp; omega, ⟨by omega, by omega⟩, hKA.weak (fun i hi => by have h9 := hi.2; omega), hKB.weak (fun i hi => by have h9 := hi.2; omega), hKC.r1.weak (fun i hi => by first | omega | (dsimp only at hi; omega)), by omega, RD, G⟩
set_option maxHeartbeats 400000 in
set_option maxRecDepth 20000 in
theorem spec_DrawLazyValid_c (Pr : Nat → Prop) (A : Option Addr) (xs : List Int) (c : Nat) (w : World) (hA : R1 Pr w A (u8s xs)) (hx : xs.length ≤ 1048576) (hc : xs.length ≤ c) (hr : ∀ x ∈ xs, 0 ≤ x ∧ x ≤ 255) :
    Calls Try.prog 14 #[.slice A xs.length c] w (Ret fun v w' => ∃ (hD : LH) (ns : List Bool) (y : Int) (A1 B1 C1 : Option Addr) (n1 c1 n2 c2 n3 c3 : Nat), v = .agg #[.slice A1 n1 c1, .slice B1 n2 c2, .slice C1 n3 c3, .int .i64 y] ∧ n1 = hD.cells.length ∧ n2 = hD.roots.length ∧ n3 = ns.length ∧ hsize hD ≤ 300 ∧ ns.length ≤ 301 ∧ (-1 ≤ y ∧ y ≤ 302) ∧ RC (fun i => w.heap.size ≤ i) w' A1 hD.cells ∧ R1 (fun i => w.heap.size ≤ i) w' B1 (ints hD.roots) ∧ R1 (fun i => w.heap.size ≤ i) w' C1 (bools ns) ∧ Grow w w') := by
 refine enter Try.func14 rfl Try.ntmps14 (L := [_,_,_,_,_,_]) rfl ?_
 have G := Mod.refl No w
 have hA0 := hA
 refine wp_seq_k fun K1 hK1 => ?_
 refine Sb 6 rfl ?_
 refine S_alloc (cs := [_, _, _, _]) zr42 rfl ?_
 intro b1 w1 fb1 g1 B1
 have lb1 := B1.lt
 replace hA := hA.grow g1
 replace G := G.grow g1
 have zg1 := g1.size
 refine S_nl rfl rfl ?_
 refine th_n (hK1 _ _ ?_)
 clear hK1 K1
 refine wp_seq_k fun K2 hK2 => ?_
 refine Sb 6 rfl ?_
 refine Smv rfl ?_
 refine S_call rfl en19 (spec_l20Open_c _ _ _ _ _ (by assumption) (by omega) (by omega) (by assumption)) ?_
 rintro v2 w2 ⟨b2, rfl, fb2, RD2, g2⟩
 replace hA := hA.grow g2
 replace G := G.grow g2
 replace B1 := B1.grow g2
 have zg2 := g2.size
 obtain ⟨bR, rfl⟩ : ∃ x, x = b2 := ⟨_, rfl⟩
 have RD := RD2
 have hbR := fb2
 refine S_call rfl en42 (spec_l20Lazy_c _ _ _ _ RD (by omega) (by omega)) ?_
 rintro v3 w3 ⟨hD3, ns3, y3, A3, B3, C3, n13, c13, n23, c23, n33, c33, p3, rfl, hn13, hn23, hn33, hz3, hy3, hr3, RC3, RR3, RM3, hp3, RD3, m3⟩
 subst hn13
 subst hn23
 subst hn33
 obtain ⟨h, rfl⟩ : ∃ x, x = hD3 := ⟨_, rfl⟩
 obtain ⟨ms, rfl⟩ : ∃ x, x = ns3 := ⟨_, rfl⟩
 obtain ⟨x, rfl⟩ : ∃ x, x = y3 := ⟨_, rfl⟩
 have hzD := hz3
 have hyD := hy3
 have hrD := hr3
 obtain ⟨loD, hloD⟩ : ∃ x, x = w2.heap.size := ⟨_, rfl⟩
 obtain ⟨hiD, hhiD⟩ : ∃ x, x = w3.heap.size := ⟨_, rfl⟩
 replace RD := RD3
 clear RD3
 replace G := G.abv m3
 replace hA := hA0.grow G
 replace B1 := B1.md m3
 have zm3 := m3.size
 have hDA : RC (fun k => loD ≤ k ∧ k < hiD) w3 _ h.cells := RC.both RC3 RC3.below hloD hhiD
 have hDB : R1 (fun k => loD ≤ k ∧ k < hiD) w3 _ (ints h.roots) := R1.both RR3 RR3.below hloD hhiD
 have hDM : R1 (fun k => loD ≤ k ∧ k < hiD) w3 _ (bools ms) := R1.both RM3 RM3.below hloD hhiD
 refine S_stM (pre := []) (old := [_, _, _, _]) (post := []) (vs := [_, _, _, _]) sz42 rfl rfl rfl (by first | rfl | assumption) B1 rfl rfl ?_
 intro w4 m4 X4
 replace B1 := Blk.eq (ys := [_, _, _, _]) X4 rfl
 clear X4
 replace G := G.abv m4
 replace hA := hA0.grow G
 replace hDA := hDA.md m4
 replace hDB := hDB.md m4
 replace hDM := hDM.md m4
 have zm4 := m4.size
 refine S_nl rfl rfl ?_
 refine th_n (hK2 _ _ ?_)
 clear hK2 K2
 refine wp_ret ?_
 refine ret_rc (cs := [_, _, _, _]) U42 rfl sz42 rfl rfl (B1.row (by rfl)) ?_
 exact ⟨h, ms, x, _, _, _, _, _, _, _, _, _, rfl, rfl, rfl, rfl, hzD, hyD, hrD, hDA.weak (fun i hi => by first | omega | (dsimp only at hi ⊢; omega)), hDB.weak (fun i hi => by first | omega | (dsimp only at hi ⊢; omega)), hDM.weak (fun i hi => by first | omega | (dsimp only at hi ⊢; omega)), G⟩
end
/-! Open -/
section
open Go Go.ChangeShapes Go.WideShapes Go.ChangeAt Go.RowKit Go.Deep Go.Joins
section
variable {H : Type} {enc : TypeId × Value → H} {P : Program} {w : World} {base : Nat} {spare : Nat → Bool} {held : Bool}
theorem plain_of_cell {w : World} {a : Addr} {v : Value} (h : w.cell? a = some v) : ∃ g o, a = ⟨g, o, none⟩ := by
  obtain ⟨g, o, s⟩ := a
  have hs := World.cell?_spot h
  simp only at hs
  subst hs
  exact ⟨g, o, rfl⟩
theorem trod_top {t e : TypeId} {r : Reach} {b0 : Nat} {v : Value} {d : DataW H} {p : List MemPlace} (hu : P.underlying t = some (.slice e)) (hval : Value.okWide P w r b0 t v) (h : DataW.Trod enc P w base spare held t v d p) :
    ∃ fuel, DataW.trod enc P w base spare held fuel t [v] = some (d, p) := by
  obtain ⟨a, len, cap, rfl⟩ := okWide_slice hu hval
  obtain ⟨fuel, hf⟩ := h
  exact ⟨fuel, hf⟩
theorem open_ru {t e : TypeId} {fuel : Nat} {v : Value} {x : DataW H × List MemPlace} (ht : P.underlying t = some (.slice e)) (he : P.underlying e = some (.int .u8)) (hc : P.cellsOf e = 1)
    (h : DataW.trod enc P w base spare held fuel t [v] = some x) : ∃ (A : Option Addr) (xs : List Int) (c : Nat), v = .slice A xs.length c ∧ R1 (fun _ => True) w A (u8s xs) ∧ xs.length ≤ 9223372036854775807 ∧ xs.length ≤ c ∧ ∀ y ∈ xs, 0 ≤ y ∧ y ≤ 255 := by
  rcases open_ints ht he hc h with ⟨hcs, _⟩ | ⟨a, len, cap, zs, hcs, _, hl, hm, hz, _, hcell, hwz⟩
  · simp only [List.cons.injEq, and_true] at hcs
    subst hcs
    exact ⟨none, [], 0, rfl, R1.nil _ _ _, by simp, by simp, by simp⟩
  · simp only [List.cons.injEq, and_true] at hcs
    subst hcs
    have hlz : len ≤ zs.length := by
      rw [hz]
      split
      · exact hl
      · exact Nat.le_refl _
    have hlen : (zs.take len).length = len := by rw [List.length_take]; omega
    refine ⟨some a, zs.take len, cap, by rw [hlen], fun k u hu => ?_, by rw [hlen]; unfold maxLen at hm; omega, by rw [hlen]; exact hl, fun y hy => ?_⟩
    · have hk : k < len := by
        have := (List.getElem?_eq_some_iff.1 hu).1
        rw [u8s, List.length_map, hlen] at this
        exact this
      obtain ⟨g, o, rfl⟩ : ∃ g o, a = ⟨g, o, none⟩ := by
        have h0 := hcell 0 (by omega)
        rw [show a.add 0 = a by simp [Addr.add]] at h0
        exact plain_of_cell h0
      refine ⟨g, o, rfl, trivial, ?_⟩
      have hck := hcell k (by omega)
      rw [Addr.add_lit] at hck
      rw [Nat.mul_one, hck]
      have hu' : (u8s (zs.take len))[k]? = some (.int .u8 (zs.getD k 0)) := by
        unfold u8s
        rw [List.getElem?_map, List.getElem?_take, if_pos hk, List.getElem?_eq_getElem (show k < zs.length by omega)]
        simp [List.getD, List.getElem?_eq_getElem (show k < zs.length by omega)]
      rw [hu'] at hu
      exact hu
    · have hy' := List.mem_of_mem_take hy
      have := hwz y hy'
      simp [Lit.wf, IntKind.min, IntKind.max, IntKind.bits, IntKind.signed] at this
      omega
end
end
end Go.Proofs.Ytdlmjmcddafojaa
