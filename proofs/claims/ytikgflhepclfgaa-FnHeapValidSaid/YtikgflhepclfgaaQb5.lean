/-
  Walks through functions of the program and the reference, and the plain laws behind them: what one claim needs of them.
  Conditions: those that each theorem states.
-/
import Derived.ProofKit
import Derived.Deep.Slices
import Derived.Deep.Fields
import Derived.Deep.Grids
import Derived.ChangeSame
import Derived.Lib.SmallJoins
import Derived.Below
import Derived.Carry
import Derived.Test.YtikgflhepclfgaaQb4
set_option linter.unusedVariables false
set_option linter.unusedSimpArgs false
namespace Go.Proofs.Ytikgflhepclfgaa
/-! WalkR -/
section
open Go Go.RowKit
attribute [local irreducible] wpList wpAnyH Code.wp dOp
def VisitOK (f : Nat) : Prop := ∀ (h : LH) (A B E : Option Addr) (c d : Nat) (xs : List Int) (e lo bl bx bm bo bw bh m q cap : Nat) (A1 : Option Addr) (s : List Int) (w : World), (RC (fun k => k < lo) w A h.cells) → (R1 (fun k => k < lo) w E (ints xs)) → (xs.length ≤ 1048576) → (hsize h ≤ 1048576) → (Blk w bh 35 [.slice A h.cells.length c, .slice B h.roots.length d].toArray) → (Blk w bw 82 [.func (.func 76) #[] #[.pointer (some ⟨bm, 0, none⟩), .pointer (some ⟨bo, 0, none⟩), .pointer (some ⟨bw, 0, none⟩), .pointer (some ⟨bh, 0, none⟩)]].toArray) → (Blk w bm 76 [.int .u64 (m : Int)].toArray) → (Blk w bo 33 [.slice A1 q cap].toArray) → (OW (fun i => i = bl ∨ bx < i) w 3 1 A1 q cap (ints s)) → (q = s.length) → (BitsOf m s) → (∀ x ∈ xs, RefOk h.cells.length x) → (Leads h.cells h.roots nn) → (h.cells.length ≤ 64) → (Bnd h.cells.length s) → (h.cells.length ≤ f + s.length) → (lo ≤ bl ∧ lo ≤ bm ∧ lo ≤ bo ∧ bl ≤ bx ∧ bm ≤ bx ∧ bo ≤ bx ∧ bm ≠ bl ∧ bo ≠ bl ∧ bm ≠ bo ∧ bx < w.heap.size ∧ bw ≤ bx ∧ bh ≤ bx ∧ bw ≠ bm ∧ bw ≠ bo ∧ bw ≠ bl ∧ bh ≠ bm ∧ bh ≠ bo ∧ bh ≠ bl) →
    Calls Try.prog 76 #[.slice E xs.length e, .pointer (some ⟨bm, 0, none⟩), .pointer (some ⟨bo, 0, none⟩), .pointer (some ⟨bw, 0, none⟩), .pointer (some ⟨bh, 0, none⟩)] w (Ret fun _ w' => ∃ m q cap A1, q = (xs.foldl (dw1 h.cells f) s).length ∧ BitsOf m (xs.foldl (dw1 h.cells f) s) ∧ Blk w' bm 76 [.int .u64 (m : Int)].toArray ∧ Blk w' bo 33 [.slice A1 q cap].toArray ∧ OW (fun i => i = bl ∨ bx < i) w' 3 1 A1 q cap (ints (xs.foldl (dw1 h.cells f) s)) ∧ Mod (fun i => i = bm ∨ i = bo ∨ i = bl ∨ bx < i) w w')
set_option maxHeartbeats 400000 in
set_option maxRecDepth 20000 in
theorem visit_step (f : Nat) (ih : ∀ f', f = f' + 1 → VisitOK f') (h : LH) (A B E : Option Addr) (c d : Nat) (xs : List Int) (e lo bl bx bm bo bw bh m q cap : Nat) (A1 : Option Addr) (s : List Int) (w : World) (hA : RC (fun k => k < lo) w A h.cells) (hE : R1 (fun k => k < lo) w E (ints xs)) (hx : xs.length ≤ 1048576) (hz : hsize h ≤ 1048576) (Bh : Blk w bh 35 [.slice A h.cells.length c, .slice B h.roots.length d].toArray) (Bw : Blk w bw 82 [.func (.func 76) #[] #[.pointer (some ⟨bm, 0, none⟩), .pointer (some ⟨bo, 0, none⟩), .pointer (some ⟨bw, 0, none⟩), .pointer (some ⟨bh, 0, none⟩)]].toArray) (Bm : Blk w bm 76 [.int .u64 (m : Int)].toArray) (Bo : Blk w bo 33 [.slice A1 q cap].toArray) (O : OW (fun i => i = bl ∨ bx < i) w 3 1 A1 q cap (ints s)) (hq : q = s.length) (hs : BitsOf m s) (hr : ∀ x ∈ xs, RefOk h.cells.length x) (hl : Leads h.cells h.roots nn) (hN : h.cells.length ≤ 64) (hb : Bnd h.cells.length s) (hf : h.cells.length ≤ f + s.length) (h9 : lo ≤ bl ∧ lo ≤ bm ∧ lo ≤ bo ∧ bl ≤ bx ∧ bm ≤ bx ∧ bo ≤ bx ∧ bm ≠ bl ∧ bo ≠ bl ∧ bm ≠ bo ∧ bx < w.heap.size ∧ bw ≤ bx ∧ bh ≤ bx ∧ bw ≠ bm ∧ bw ≠ bo ∧ bw ≠ bl ∧ bh ≠ bm ∧ bh ≠ bo ∧ bh ≠ bl) :
    Calls Try.prog 76 #[.slice E xs.length e, .pointer (some ⟨bm, 0, none⟩), .pointer (some ⟨bo, 0, none⟩), .pointer (some ⟨bw, 0, none⟩), .pointer (some ⟨bh, 0, none⟩)] w (Ret fun _v w' => ∃ m q cap A1, q = (xs.foldl (dw1 h.cells f) s).length ∧ BitsOf m (xs.foldl (dw1 h.cells f) s) ∧ Blk w' bm 76 [.int .u64 (m : Int)].toArray ∧ Blk w' bo 33 [.slice A1 q cap].toArray ∧ OW (fun i => i = bl ∨ bx < i) w' 3 1 A1 q cap (ints (xs.foldl (dw1 h.cells f) s)) ∧ Mod (fun i => i = bm ∨ i = bo ∨ i = bl ∨ bx < i) w w') := by
 obtain ⟨p1, p2, p3, p4, p5, p6, p7, p8, p9, p10, p11, p12, p13, p14, p15, p16, p17, p18⟩ := h9
 have hz3 : ∀ k (hk : k < h.cells.length), h.cells[k].refs.length ≤ hsize h := fun k hk => hsize_refs h hk
 refine enter Try.func76 rfl Try.ntmps76 (L := [_,_,_,_,_,_,_,_,_,_,_,_,_,_,_,_,_,_,_,_,_,_,_,_,_,_,_,_,_,_,_,_,_,_,_,_,_]) rfl ?_
 have G := Mod.refl (fun i => i = bm ∨ i = bo ∨ i = bl ∨ bx < i) w
 refine wp_seq_k fun K1 hK1 => ?_
 refine Sb 37 rfl ?_  -- 0
 refine S_val (Y_move rfl) ?_
 refine S_val (Y_len Try.underlying33 rfl) ?_
 refine S_val (Y_move rfl) ?_
 refine S_nl rfl rfl ?_
 refine th_n (hK1 _ _ ?_)
 clear hK1 K1
 refine wp_block ?_
 go_loopw [10] (fun u10 wr => (∃ (k m q cap : Nat) (A1 : Option Addr) (s1 : List Int), u10 = .int .i64 k ∧ k ≤ xs.length ∧ q = s1.length ∧ s1 = (xs.take k).foldl (dw1 h.cells f) s ∧ BitsOf m s1 ∧ Blk wr bm 76 [.int .u64 (m : Int)].toArray ∧ Blk wr bo 33 [.slice A1 q cap].toArray ∧ OW (fun i => i = bl ∨ bx < i) wr 3 1 A1 q cap (ints s1)) ∧ Mod (fun i => i = bm ∨ i = bo ∨ i = bl ∨ bx < i) w wr) (fun u10 wr => xs.length - (intOf u10).toNat)  -- L1
 case atStart =>
  refine ⟨?_, Mod.refl _ _⟩
  exact ⟨0, m, q, cap, A1, s, rfl, by omega, hq, rfl, hs, Bm, Bo, O⟩
 case round =>
  obtain ⟨w1, rfl⟩ : ∃ x : World, x = wr := ⟨_, rfl⟩
  obtain ⟨hrel, g1⟩ := hrel
  clear Bm
  clear Bo
  clear O
  replace G := Mod.trans' G g1 (fun _ h _ => h) (fun i h _ => by first | exact h | omega | (dsimp only at h ⊢; omega))
  replace hA := hA.md g1
  replace hE := hE.md g1
  replace Bh := Bh.md g1
  replace Bw := Bw.md g1
  have zg1 := g1.size
  obtain ⟨k, m1, q1, cap1, A2, s1, rfl, hk, hq1, hs1, ht1, Bm, Bo, O⟩ := hrel
  have hsb := dws_bnd hl f (fun x hx => hr x (List.mem_of_mem_take hx)) hb (xs := xs.take k)
  rw [← hs1] at hsb
  have hsl := hsb.2.len
  have hm1 := ht1.1
  have GL1 := g1
  refine wp_seq_k fun K2 hK2 => ?_
  refine Sb 37 rfl ?_  -- 1
  refine S_val (Y_lss rfl rfl) ?_
  refine S_nl rfl rfl ?_
  refine th_n (hK2 _ _ ?_)
  clear hK2 K2
  refine wp_seq_k fun K3 hK3 => ?_
  refine S_if rfl (fun hb1 => ?_) (fun hb1 => ?_)  -- c1
  · -- c1T
   replace hb1 := nb_tt hb1
   have hk1 : k < xs.length := by omega
   obtain ⟨g1, o1, rfl, hp1, hc1⟩ := hE.int hk1
   have hfs := foldl_succ (g := dw1 h.cells f) (b := s) hk1
   rw [← hs1] at hfs
   refine wp_skip ?_
   refine th_n (hK3 _ _ ?_)
   clear hK3 K3
   refine wp_seq_k fun K4 hK4 => ?_
   refine wp_block ?_
   refine wp_seq_k fun K5 hK5 => ?_
   refine Sb 37 rfl ?_  -- 2
   refine S_val (Y_index Try.underlying33 sz3 rfl rfl (by first | assumption | omega)) ?_
   refine S_val (Y_load Try.underlying3 rfl rfl (by first | assumption | exact Bh.at (by rfl) | exact Bw.at (by rfl) | exact Bm.at (by rfl) | exact Bo.at (by rfl))) ?_  -- l1
   refine S_val (Y_assign rfl) ?_
   refine S_nl rfl rfl ?_
   refine th_n (hK5 _ _ ?_)
   clear hK5 K5
   refine wp_seq_k fun K6 hK6 => ?_
   refine Sb 37 rfl ?_  -- 3
   refine S_val (Y_move rfl) ?_
   refine S_val (Y_geq rfl rfl) ?_
   refine S_val (Y_move rfl) ?_
   refine S_g 16 rfl (fun hb2 => ?_) (fun hb2 => ?_)  -- g1
   · -- g1T
    replace hb2 := nb_tt hb2
    obtain ⟨n, hn, hnN⟩ := ref_at (fun x hx => hr x hx) hk1 hb2
    rw [hn] at hfs
    rw [hn]
    refine S_on rfl rfl ?_
    refine S_val (Y_load Try.underlying76 rfl rfl (Bm.at (by rfl))) ?_  -- l2
    refine S_on rfl rfl ?_
    refine S_val (Y_move rfl) ?_
    refine S_on rfl rfl ?_
    refine S_call rfl en73 (impl_cellSet_has_c _ _ _ (by assumption)) ?_  -- k1 (impl.cellSet).has
    rintro v w' ⟨rfl, rfl⟩
    refine S_on rfl rfl ?_
    refine S_val (Y_not rfl) ?_
    refine S_val (Y_pickT rfl rfl) ?_
    refine S_nl rfl rfl ?_
    refine th_n (hK6 _ _ ?_)
    clear hK6 K6
    refine S_if rfl (fun hb3 => ?_) (fun hb3 => ?_)  -- c2
    · -- c2T
     first | with_reducible (replace hb3 := nb_nt hb3) | with_reducible (replace hb3 := nb_tt hb3) | with_reducible (replace hb3 := nb_bt hb3) | skip
     rw [hasB_nat, ht1.2] at hb3
     have hnew : ¬ (n : Int) ∈ s1 := of_decide_eq_false hb3
     obtain ⟨f1, hf1, hf2⟩ := fuel_pos (f := f) hsb.2 hnN hnew (by have := hsb.1; omega)
     obtain ⟨g3, o3, E3, d3, rfl, hp3, cc30, hE30⟩ := hA.cell hnN
     have cc3 := cc30
     have hE3 := hE30
     have hz4 := hz3 n hnN
     have hdn := dw1_new (cs := h.cells) (f := f1) hnew
     rw [← hf1, refsOf_at hnN] at hdn
     rw [hdn] at hfs
     refine wp_seq_k fun K7 hK7 => ?_
     refine Sb 37 rfl ?_  -- 4
     refine S_val (Y_move rfl) ?_
     refine S_call rfl en77 (impl_cellSet_add_c _ _ _ _ (by assumption) (by assumption) (by omega)) ?_  -- k2 (*impl.cellSet).add
     rintro v3 w3 ⟨X3, m3⟩
     replace Bm := X3
     clear X3
     replace G := Mod.trans' G m3 (fun _ h _ => h) (fun i h _ => by first | exact h | omega | (dsimp only at h ⊢; omega))
     replace GL1 := GL1.trn m3
     replace hA := hA.md m3
     replace hE := hE.md m3
     replace O := O.md m3
     replace hE3 := hE3.md m3
     replace Bh := Bh.md m3
     replace Bw := Bw.md m3
     replace Bo := Bo.md m3
     replace cc3 := cc3.md m3
     have zm3 := m3.size
     have ht2 := ht1.add (n := n) (by omega)
     refine S_nl rfl rfl ?_
     refine th_n (hK7 _ _ ?_)
     clear hK7 K7
     refine wp_seq_k fun K8 hK8 => ?_
     refine Sb 37 rfl ?_  -- 5
     refine S_val (Y_load Try.underlying33 rfl rfl (Bo.at (by rfl))) ?_  -- l3
     refine S_val (Y_move rfl) ?_
     refine S_bs1 (cs := [_]) Try.underlying33 zr3 sz3 rfl rfl rfl ?_
     intro b4 w4 fb4 g4 B4
     have lb4 := B4.lt
     replace hA := hA.grow g4
     replace hE := hE.grow g4
     replace O := O.grow g4
     replace hE3 := hE3.grow g4
     replace G := G.grow g4
     replace GL1 := GL1.grow g4
     replace Bh := Bh.grow g4
     replace Bw := Bw.grow g4
     replace Bm := Bm.grow g4
     replace Bo := Bo.grow g4
     replace cc3 := cc3.grow g4
     have zg4 := g4.size
     refine S_app Try.underlying33 zr3 sz3 by3 rfl rfl O rfl (Src.blk B4) (by simp [Value.oneCell']) (by omega) (Pr' := fun i => i = bl ∨ bx < i) (fun i hi => hi) (by omega) ?_
     intro A5 cap5 w5 X5 m5
     replace O := X5
     rw [ints_app] at O
     clear X5
     replace G := Mod.trans' G m5 (fun _ h _ => h) (fun i h _ => by first | exact h | omega | (dsimp only at h ⊢; omega))
     replace GL1 := GL1.trn m5
     replace hA := hA.md m5
     replace hE := hE.md m5
     replace hE3 := hE3.md m5
     replace Bh := Bh.md m5
     replace Bw := Bw.md m5
     replace Bm := Bm.md m5
     replace Bo := Bo.md m5
     replace cc3 := cc3.md m5
     have zm5 := m5.size
     refine S_stM (pre := []) (old := [_]) (post := []) (vs := [_]) sz33 rfl rfl rfl (by first | rfl | assumption) Bo rfl rfl ?_
     intro w6 m6 X6
     replace Bo := Blk.eq (ys := [_]) X6 rfl
     clear X6
     replace G := Mod.trans' G m6 (fun _ h _ => h) (fun i h _ => by first | exact h | omega | (dsimp only at h ⊢; omega))
     replace GL1 := GL1.trn m6
     replace hA := hA.md m6
     replace hE := hE.md m6
     replace O := O.md m6
     replace hE3 := hE3.md m6
     replace Bh := Bh.md m6
     replace Bw := Bw.md m6
     replace Bm := Bm.md m6
     replace cc3 := cc3.md m6
     have zm6 := m6.size
     refine S_nl rfl rfl ?_
     refine th_n (hK8 _ _ ?_)
     clear hK8 K8
     refine D_start 8 37 (fun w => Mod (fun i => i = bm ∨ i = bo ∨ i = bl ∨ bx < i) w) follows rfl rfl ?_  -- d1 r6
     intro w7 g7
     replace hA := hA.grow g7
     replace hE := hE.grow g7
     replace O := O.grow g7
     replace hE3 := hE3.grow g7
     replace G := G.grow g7
     replace GL1 := GL1.grow g7
     replace Bh := Bh.grow g7
     replace Bw := Bw.grow g7
     replace Bm := Bm.grow g7
     replace Bo := Bo.grow g7
     replace cc3 := cc3.grow g7
     have zg7 := g7.size
     have GS7 := Mod.refl (fun i => i = bm ∨ i = bo ∨ i = bl ∨ bx < i) w7
     refine Dq (i := 0) rfl GS7 (fun _ hs => Y_load Try.underlying82 rfl rfl (by first | exact hs.cell (by assumption) (by intro h; first | omega | (dsimp only at h; omega)) | exact hs.cell (Bh.at (by rfl)) (by intro h; first | omega | (dsimp only at h; omega)) | exact hs.cell (Bw.at (by rfl)) (by intro h; first | omega | (dsimp only at h; omega)) | exact hs.cell (Bm.at (by rfl)) (by intro h; first | omega | (dsimp only at h; omega)) | exact hs.cell (Bo.at (by rfl)) (by intro h; first | omega | (dsimp only at h; omega)) | exact hs.cell (cc3.at (by rfl)) (by intro h; first | omega | (dsimp only at h; omega)))) ?_
     refine Dq (i := 1) rfl GS7 (fun _ _ => Y_field Try.underlying35 rfl fz35_0 (by decide) rfl) ?_
     refine Dq (i := 2) rfl GS7 (fun _ hs => Y_load Try.underlying32 rfl rfl (by first | exact hs.cell (by assumption) (by intro h; first | omega | (dsimp only at h; omega)) | exact hs.cell (Bh.at (by rfl)) (by intro h; first | omega | (dsimp only at h; omega)) | exact hs.cell (Bw.at (by rfl)) (by intro h; first | omega | (dsimp only at h; omega)) | exact hs.cell (Bm.at (by rfl)) (by intro h; first | omega | (dsimp only at h; omega)) | exact hs.cell (Bo.at (by rfl)) (by intro h; first | omega | (dsimp only at h; omega)) | exact hs.cell (cc3.at (by rfl)) (by intro h; first | omega | (dsimp only at h; omega)))) ?_
     refine Dq (i := 3) rfl GS7 (fun _ _ => Y_move rfl) ?_
     refine Dq (i := 4) rfl GS7 (fun _ _ => Y_index Try.underlying32 sz39 rfl rfl (by first | assumption | omega)) ?_
     refine Dq (i := 5) rfl GS7 (fun _ _ => Y_field Try.underlying39 rfl fz39_2 (by decide) rfl) ?_
     refine Dq (i := 6) rfl GS7 (fun _ hs => Y_load Try.underlying33 rfl rfl (by first | exact hs.cell (by assumption) (by intro h; first | omega | (dsimp only at h; omega)) | exact hs.cell (Bh.at (by rfl)) (by intro h; first | omega | (dsimp only at h; omega)) | exact hs.cell (Bw.at (by rfl)) (by intro h; first | omega | (dsimp only at h; omega)) | exact hs.cell (Bm.at (by rfl)) (by intro h; first | omega | (dsimp only at h; omega)) | exact hs.cell (Bo.at (by rfl)) (by intro h; first | omega | (dsimp only at h; omega)) | exact hs.cell (cc3.at (by rfl)) (by intro h; first | omega | (dsimp only at h; omega)))) ?_
     refine D_1 (i := 7) (by kernel_rfl) ?_
     refine E_callc rfl rfl rfl en76 (ih f1 hf1 h _ _ _ _ _ _ _ lo bl bx bm bo bw bh _ _ _ _ _ _ hA hE3 (by omega) hz Bh Bw Bm Bo O (by rw [List.length_append]; simp; omega) ht2 (fun x hx ho => hl.refs hnN x hx ho) hl hN (hsb.2.snoc hnN hnew) hf2 ⟨by omega, by omega, by omega, by omega, by omega, by omega, by omega, by omega, by omega, by omega, by omega, by omega, by omega, by omega, by omega, by omega, by omega, by omega⟩) ?_  -- k3
     rintro v8 w8 ⟨m3, q3, cap3, A3, hq3, ht3, X8, Y8, Z8, m8⟩
     replace Bm := X8
     replace Bo := Y8
     replace O := Z8
     clear X8 Y8 Z8
     replace G := Mod.trans' G m8 (fun _ h _ => h) (fun i h _ => by first | exact h | omega | (dsimp only at h ⊢; omega))
     replace GL1 := GL1.trn m8
     replace GS7 := GS7.trn m8
     replace hA := hA.md m8
     replace hE := hE.md m8
     replace hE3 := hE3.md m8
     replace Bh := Bh.md m8
     replace Bw := Bw.md m8
     replace cc3 := cc3.md m8
     have zm8 := m8.size
     refine ⟨GS7, ?_⟩
     refine D_en (by kernel_rfl) rfl rfl ?_
     refine ib_n ?_
     refine th_n (hK4 _ _ ?_)
     clear hK4 K4
     refine Sb 37 rfl ?_  -- 7
     refine S_val (Y_inc rfl rfl (by omega)) ?_
     refine S_val (Y_move rfl) ?_
     refine S_nl rfl rfl ?_
     refine th_n ?_
     go_roundw  -- e1 of L1
     case rel =>
      refine ⟨?_, GL1⟩
      exact ⟨k + 1, _, _, _, _, _, rfl, by omega, hq3, hfs.symm, ht3, Bm, Bo, O⟩
     case measure =>
      exact dec_nat (by omega)
    · -- c2F
     first | with_reducible (replace hb3 := nb_nf hb3) | with_reducible (replace hb3 := nb_tf hb3) | with_reducible (replace hb3 := nb_bf hb3) | skip
     rw [hasB_nat, ht1.2] at hb3
     rw [dw1_old (fun hh => hh.2 (of_decide_eq_true hb3))] at hfs
     refine wp_skip ?_
     refine ib_n ?_
     refine th_n (hK4 _ _ ?_)
     clear hK4 K4
     refine Sb 37 rfl ?_  -- 7
     refine S_val (Y_inc rfl rfl (by omega)) ?_
     refine S_val (Y_move rfl) ?_
     refine S_nl rfl rfl ?_
     refine th_n ?_
     go_roundw  -- e2 of L1
     case rel =>
      refine ⟨?_, GL1⟩
      exact ⟨k + 1, _, _, _, _, s1, rfl, by omega, hq1, hfs.symm, ht1, Bm, Bo, O⟩
     case measure =>
      exact dec_nat (by omega)
   · -- g1F
    replace hb2 := nb_tf hb2
    refine S_off rfl rfl ?_
    refine S_off rfl rfl ?_
    refine S_off rfl rfl ?_
    refine S_off rfl rfl ?_
    refine S_val (Y_pickF rfl rfl) ?_
    refine S_nl rfl rfl ?_
    refine th_n (hK6 _ _ ?_)
    clear hK6 K6
    refine S_ifF rfl ?_
    refine wp_skip ?_
    refine ib_n ?_
    refine th_n (hK4 _ _ ?_)
    clear hK4 K4
    refine Sb 37 rfl ?_  -- 7
    refine S_val (Y_inc rfl rfl (by omega)) ?_
    refine S_val (Y_move rfl) ?_
    refine S_nl rfl rfl ?_
    refine th_n ?_
    go_roundw  -- e3 of L1
    case rel =>
     refine ⟨?_, GL1⟩
     rw [dw1_old (fun hh => hb2 hh.1)] at hfs
     exact ⟨k + 1, _, _, _, _, s1, rfl, by omega, hq1, hfs.symm, ht1, Bm, Bo, O⟩
    case measure =>
     exact dec_nat (by omega)
  · -- c1F
   replace hb1 := nb_tf hb1
   refine wp_exit ?_
   refine th_x ?_
   try clear GL1
   refine th_x ?_
   refine ib_e ?_
   clear hK3 K3
   refine ret_n0 rfl ?_  -- r1
   rw [List.take_of_length_le (by omega)] at hs1
   subst hs1
   exact ⟨_, _, _, _, hq1, ht1, Bm, Bo, O, G⟩
theorem visit_ok : ∀ f, VisitOK f
  | 0 => visit_step 0 (fun _ h => by omega)
  | f + 1 => visit_step (f + 1) (fun f' h => by cases h; exact visit_ok f)
set_option maxHeartbeats 400000 in
set_option maxRecDepth 20000 in
theorem impl_MarkDepth_c (Pr : Nat → Prop) (A B : Option Addr) (h : LH) (c d : Nat) (w : World) (hA : RC Pr w A h.cells) (hB : R1 Pr w B (ints h.roots)) (hz : hsize h ≤ 1048576) :
    Calls Try.prog 39 #[.agg #[.slice A h.cells.length c, .slice B h.roots.length d]] w (Ret fun v w' => ∃ A1 q cap, v = .slice A1 q cap ∧ q = (depthV h).length ∧ OI (fun i => w.heap.size ≤ i) w' 3 A1 (ints (depthV h)) ∧ Grow w w') := by
 have hz1 := hsize_cells h
 have hz2 := hsize_roots h
 have hz3 : ∀ k (hk : k < h.cells.length), h.cells[k].refs.length ≤ hsize h := fun k hk => hsize_refs h hk
 have hAl := hA.below
 have hBl := hB.below
 refine enter Try.func39 rfl Try.ntmps39 (L := [_,_,_,_,_,_,_,_,_,_,_,_,_,_,_,_]) rfl ?_
 have G := Mod.refl No w
 have hAl0 := hAl
 have hBl0 := hBl
 refine wp_seq_k fun K1 hK1 => ?_
 refine Sb 16 rfl ?_  -- 0
 refine S_box (cs := [_, _]) rfl rfl ?_
 intro b1 w1 fb1 g1 B1
 have lb1 := B1.lt
 replace hAl := hAl.grow g1
 replace hBl := hBl.grow g1
 replace G := G.grow g1
 have zg1 := g1.size
 refine S_val (Y_assign rfl) ?_
 refine S_nl rfl rfl ?_
 refine th_n (hK1 _ _ ?_)
 clear hK1 K1
 refine wp_seq_k fun K2 hK2 => ?_
 refine wp_seq_k fun K3 hK3 => ?_
 refine Sb 16 rfl ?_  -- 1
 refine S_val (Y_loadS Try.underlying35 rfl sz35 rfl (B1.row (by rfl))) ?_  -- l1
 refine S_call rfl en50 (impl_HeapValid_c _ _ _ _ _ _ _ (by assumption) (by assumption) (by omega)) ?_  -- k1 impl.HeapValid
 rintro v2 w2 ⟨rfl, g2⟩
 replace hAl := hAl.grow g2
 replace hBl := hBl.grow g2
 replace G := G.grow g2
 replace B1 := B1.grow g2
 have zg2 := g2.size
 refine S_val (Y_not rfl) ?_
 refine S_nl rfl rfl ?_
 refine th_n (hK3 _ _ ?_)
 clear hK3 K3
 refine S_if rfl (fun hb1 => ?_) (fun hb1 => ?_)  -- c1
 · -- c1T
  first | with_reducible (replace hb1 := nb_nt hb1) | with_reducible (replace hb1 := nb_tt hb1) | with_reducible (replace hb1 := nb_bt hb1) | skip
  refine wp_seq_k fun K4 hK4 => ?_
  refine Sb 16 rfl ?_  -- 2
  refine S_val (Y_assign rfl) ?_
  refine S_nl rfl rfl ?_
  refine th_n (hK4 _ _ ?_)
  clear hK4 K4
  refine wp_ret ?_
  refine th_r ?_
  clear hK2 K2
  refine ret_r1 rfl rfl ?_  -- r1
  exact ⟨_, _, _, rfl, by rw [depthV_f hb1]; rfl, by rw [depthV_f hb1]; exact OI.nil _ _ _ _, G⟩
 · -- c1F
  first | with_reducible (replace hb1 := nb_nf hb1) | with_reducible (replace hb1 := nb_tf hb1) | with_reducible (replace hb1 := nb_bf hb1) | skip
  have va := valid_iff.1 hb1
  have hl := va.leads
  have h40 := va.le
  have hr4 := va.roots4
  refine wp_skip ?_
  refine th_n (hK2 _ _ ?_)
  clear hK2 K2
  refine wp_seq_k fun K5 hK5 => ?_
  refine Sb 16 rfl ?_  -- 3
  refine S_bs0 Try.underlying33 sz3 ?_
  intro b3 w3 fb3 g3 B3
  have lb3 := B3.lt
  replace hAl := hAl.grow g3
  replace hBl := hBl.grow g3
  replace G := G.grow g3
  replace B1 := B1.grow g3
  have zg3 := g3.size
  refine S_alloc (cs := [_]) zr33 rfl ?_
  intro b4 w4 fb4 g4 B4
  have lb4 := B4.lt
  replace hAl := hAl.grow g4
  replace hBl := hBl.grow g4
  replace G := G.grow g4
  replace B1 := B1.grow g4
  replace B3 := B3.grow g4
  have zg4 := g4.size
  refine S_stM (pre := []) (old := [_]) (post := []) (vs := [_]) sz33 rfl rfl rfl (by first | rfl | assumption) B4 rfl rfl ?_
  intro w5 m5 X5
  replace B4 := Blk.eq (ys := [_]) X5 rfl
  clear X5
  replace G := G.abv m5
  replace hAl := hAl0.grow G
  replace hBl := hBl0.grow G
  replace B1 := B1.md m5
  replace B3 := B3.md m5
  have zm5 := m5.size
  refine S_nl rfl rfl ?_
  refine th_n (hK5 _ _ ?_)
  clear hK5 K5
  refine wp_seq_k fun K6 hK6 => ?_
  refine Sb 16 rfl ?_  -- 4
  refine S_alloc (cs := [_]) zr76 rfl ?_
  intro b6 w6 fb6 g6 B6
  have lb6 := B6.lt
  replace hAl := hAl.grow g6
  replace hBl := hBl.grow g6
  replace G := G.grow g6
  replace B1 := B1.grow g6
  replace B3 := B3.grow g6
  replace B4 := B4.grow g6
  have zg6 := g6.size
  refine S_nl rfl rfl ?_
  refine th_n (hK6 _ _ ?_)
  clear hK6 K6
  refine wp_seq_k fun K7 hK7 => ?_
  refine Sb 16 rfl ?_  -- 5
  refine S_alloc (cs := [_]) zr82 rfl ?_
  intro b7 w7 fb7 g7 B7
  have lb7 := B7.lt
  replace hAl := hAl.grow g7
  replace hBl := hBl.grow g7
  replace G := G.grow g7
  replace B1 := B1.grow g7
  replace B3 := B3.grow g7
  replace B4 := B4.grow g7
  replace B6 := B6.grow g7
  have zg7 := g7.size
  have O3 : OW (fun i => i = b3 ∨ b7 < i) w7 3 1 (some ⟨b3, 0, none⟩) 0 0 (ints []) := OW.of_blk B3 rfl (by decide) (.inl rfl)
  refine S_nl rfl rfl ?_
  refine th_n (hK7 _ _ ?_)
  clear hK7 K7
  refine wp_seq_k fun K8 hK8 => ?_
  refine Sb 16 rfl ?_  -- 6
  refine S_val (Y_makeFunc rfl rfl) ?_
  refine S_stM (pre := []) (old := [_]) (post := []) (vs := [_]) sz82 rfl rfl rfl (by first | rfl | assumption) B7 rfl rfl ?_
  intro w8 m8 X8
  replace B7 := Blk.eq (ys := [_]) X8 rfl
  clear X8
  replace G := G.abv m8
  replace hAl := hAl0.grow G
  replace hBl := hBl0.grow G
  replace O3 := O3.md m8
  replace B1 := B1.md m8
  replace B4 := B4.md m8
  replace B6 := B6.md m8
  have zm8 := m8.size
  refine S_nl rfl rfl ?_
  refine th_n (hK8 _ _ ?_)
  clear hK8 K8
  refine wp_seq_k fun K9 hK9 => ?_
  refine Sb 16 rfl ?_  -- 7
  refine S_val (Y_load Try.underlying82 rfl rfl (B7.at (by rfl))) ?_  -- l2
  refine S_val (Y_field Try.underlying35 rfl fz35_1 (by decide) rfl) ?_
  refine S_val (Y_load Try.underlying33 rfl rfl (B1.at (by rfl))) ?_  -- l3
  refine S_callc rfl rfl en76 (visit_ok h.cells.length h _ _ _ _ _ _ _ w.heap.size b3 b7 b6 b4 b7 b1 _ _ _ _ _ _ hAl hBl (by omega) hz B1 B7 B6 B4 O3 rfl BitsOf.zero (fun x hx ho => hl.1 x hx ho) hl (by omega) (Bnd.nil _) (by simp) ⟨by omega, by omega, by omega, by omega, by omega, by omega, by omega, by omega, by omega, by omega, by omega, by omega, by omega, by omega, by omega, by omega, by omega, by omega⟩) ?_  -- k2
  rintro v9 w9 ⟨m3, q3, cap3, A3, hq3, ht3, X9, Y9, Z9, m9⟩
  replace B6 := X9
  replace B4 := Y9
  replace O3 := Z9
  clear X9 Y9 Z9
  replace G := G.abv m9
  replace hAl := hAl0.grow G
  replace hBl := hBl0.grow G
  replace B1 := B1.md m9
  replace B7 := B7.md m9
  have zm9 := m9.size
  refine S_nl rfl rfl ?_
  refine th_n (hK9 _ _ ?_)
  clear hK9 K9
  refine wp_seq_k fun K10 hK10 => ?_
  refine Sb 16 rfl ?_  -- 8
  refine S_val (Y_load Try.underlying33 rfl rfl (B4.at (by rfl))) ?_  -- l4
  refine S_val (Y_assign rfl) ?_
  refine S_nl rfl rfl ?_
  refine th_n (hK10 _ _ ?_)
  clear hK10 K10
  refine wp_ret ?_
  refine ret_r1 rfl rfl ?_  -- r2
  exact ⟨_, _, _, rfl, by rw [depthV_t hb1]; exact hq3, by rw [depthV_t hb1]; exact O3.oi.weak (fun i hi => by omega), G⟩
def WalkOK (f : Nat) : Prop := ∀ (Pr : Nat → Prop) (h : LH) (A B : Option Addr) (c d : Nat) (x : Int) (lo bm bo q cap : Nat) (A1 : Option Addr) (s : List Int) (w : World), (∀ k, Pr k → lo ≤ k ∧ k ≠ bm ∧ k ≠ bo ∧ k < w.heap.size) → (RC (fun k => k < lo) w A h.cells) → (hsize h ≤ 1048576) → (Blk w bm 4 (bools (mB h.cells.length s)).toArray) → (Blk w bo 33 [.slice A1 q cap].toArray) → (OW Pr w 3 1 A1 q cap (ints s)) → (q = s.length) → (RefOk h.cells.length x) → (Leads h.cells h.roots nn) → (h.cells.length ≤ 64) → (Bnd h.cells.length s) → (h.cells.length ≤ f + s.length) → (lo ≤ bm ∧ lo ≤ bo ∧ bm ≠ bo ∧ bm < w.heap.size ∧ bo < w.heap.size) →
    Calls Try.prog 78 #[.agg #[.slice A h.cells.length c, .slice B h.roots.length d], .int .i64 x, .slice (some ⟨bm, 0, none⟩) h.cells.length h.cells.length, .pointer (some ⟨bo, 0, none⟩)] w (Ret fun _ w' => ∃ q cap A1, q = (dw1 h.cells f s x).length ∧ Blk w' bm 4 (bools (mB h.cells.length (dw1 h.cells f s x))).toArray ∧ Blk w' bo 33 [.slice A1 q cap].toArray ∧ OW (fun i => Pr i ∨ w.heap.size ≤ i) w' 3 1 A1 q cap (ints (dw1 h.cells f s x)) ∧ Mod (fun i => i = bm ∨ i = bo ∨ Pr i) w w')
set_option maxHeartbeats 400000 in
set_option maxRecDepth 20000 in
theorem walk_step (f : Nat) (ih : ∀ f', f = f' + 1 → WalkOK f') (Pr : Nat → Prop) (h : LH) (A B : Option Addr) (c d : Nat) (x : Int) (lo bm bo q cap : Nat) (A1 : Option Addr) (s : List Int) (w : World) (hP : ∀ k, Pr k → lo ≤ k ∧ k ≠ bm ∧ k ≠ bo ∧ k < w.heap.size) (hA : RC (fun k => k < lo) w A h.cells) (hz : hsize h ≤ 1048576) (Bm : Blk w bm 4 (bools (mB h.cells.length s)).toArray) (Bo : Blk w bo 33 [.slice A1 q cap].toArray) (O : OW Pr w 3 1 A1 q cap (ints s)) (hq : q = s.length) (hr : RefOk h.cells.length x) (hl : Leads h.cells h.roots nn) (hN : h.cells.length ≤ 64) (hb : Bnd h.cells.length s) (hf : h.cells.length ≤ f + s.length) (h9 : lo ≤ bm ∧ lo ≤ bo ∧ bm ≠ bo ∧ bm < w.heap.size ∧ bo < w.heap.size) :
    Calls Try.prog 78 #[.agg #[.slice A h.cells.length c, .slice B h.roots.length d], .int .i64 x, .slice (some ⟨bm, 0, none⟩) h.cells.length h.cells.length, .pointer (some ⟨bo, 0, none⟩)] w (Ret fun _v w' => ∃ q cap A1, q = (dw1 h.cells f s x).length ∧ Blk w' bm 4 (bools (mB h.cells.length (dw1 h.cells f s x))).toArray ∧ Blk w' bo 33 [.slice A1 q cap].toArray ∧ OW (fun i => Pr i ∨ w.heap.size ≤ i) w' 3 1 A1 q cap (ints (dw1 h.cells f s x)) ∧ Mod (fun i => i = bm ∨ i = bo ∨ Pr i) w w') := by
 obtain ⟨p1, p2, p3, p4, p5⟩ := h9
 have hz1 := hsize_cells h
 have hz3 : ∀ k (hk : k < h.cells.length), h.cells[k].refs.length ≤ hsize h := fun k hk => hsize_refs h hk
 have hsl := hb.len
 refine enter Try.func78 rfl Try.ntmps78 (L := [_,_,_,_,_,_,_,_,_,_,_,_,_,_,_,_,_,_,_,_,_,_,_,_,_,_,_,_,_,_,_,_,_,_,_,_,_,_,_,_,_,_,_,_,_,_,_,_,_,_,_,_]) rfl ?_
 have G := Mod.refl (fun i => i = bm ∨ i = bo ∨ Pr i) w
 refine wp_seq_k fun K1 hK1 => ?_
 refine Sb 52 rfl ?_  -- 0
 refine S_box (cs := [_, _]) rfl rfl ?_
 intro b1 w1 fb1 g1 B1
 have lb1 := B1.lt
 replace hA := hA.grow g1
 replace O := O.grow g1
 replace G := G.grow g1
 replace Bm := Bm.grow g1
 replace Bo := Bo.grow g1
 have zg1 := g1.size
 refine S_nl rfl rfl ?_
 refine th_n (hK1 _ _ ?_)
 clear hK1 K1
 refine wp_seq_k fun K2 hK2 => ?_
 refine wp_seq_k fun K3 hK3 => ?_
 refine Sb 52 rfl ?_  -- 1
 refine S_val (Y_move rfl) ?_
 refine S_val (Y_lss rfl rfl) ?_
 refine S_val (Y_move rfl) ?_
 refine S_g 11 rfl (fun hb1 => ?_) (fun hb1 => ?_)  -- g1
 · -- g1T
  replace hb1 := nb_tt hb1
  refine S_off rfl rfl ?_
  refine S_off rfl rfl ?_
  refine S_off rfl rfl ?_
  refine S_off rfl rfl ?_
  refine S_val (Y_pickT rfl rfl) ?_
  refine S_nl rfl rfl ?_
  refine th_n (hK3 _ _ ?_)
  clear hK3 K3
  refine S_ifT rfl ?_
  refine wp_ret ?_
  refine th_r ?_
  clear hK2 K2
  refine ret_r0 rfl ?_  -- r1
  rw [dw1_old (fun hh => absurd hh.1 (by omega))]
  exact ⟨_, _, _, hq, Bm, Bo, O.weak (fun i hi => .inl hi), G⟩
 · -- g1F
  replace hb1 := nb_tf hb1
  obtain ⟨n, rfl⟩ := Int.eq_ofNat_of_zero_le (show 0 ≤ x by omega)
  have hnN : n < h.cells.length := by have := (hr (by simp [nn])).2; omega
  have hcm : w1.cell? ⟨bm, 0 + n * 1, none⟩ = some (.bool (decide ((n : Int) ∈ s))) := by rw [Nat.zero_add, Nat.mul_one]; exact Bm.at (mB_at hnN)
  refine S_on rfl rfl ?_
  refine S_val (Y_move rfl) ?_
  refine S_on rfl rfl ?_
  refine S_val (Y_move rfl) ?_
  refine S_on rfl rfl ?_
  refine S_val (Y_index Try.underlying43 sz4 rfl rfl (by first | assumption | omega)) ?_
  refine S_on rfl rfl ?_
  refine S_val (Y_load Try.underlying4 rfl rfl (by first | assumption | exact Bm.at (by rfl) | exact Bo.at (by rfl) | exact B1.at (by rfl))) ?_  -- l1
  refine S_val (Y_pickF rfl rfl) ?_
  refine S_nl rfl rfl ?_
  refine th_n (hK3 _ _ ?_)
  clear hK3 K3
  refine S_if rfl (fun hb2 => ?_) (fun hb2 => ?_)  -- c1
  · -- c1T
   first | with_reducible (replace hb2 := nb_nt hb2) | with_reducible (replace hb2 := nb_tt hb2) | with_reducible (replace hb2 := nb_bt hb2) | skip
   refine wp_ret ?_
   refine th_r ?_
   clear hK2 K2
   refine ret_r0 rfl ?_  -- r2
   rw [dw1_old (fun hh => hh.2 hb2)]
   exact ⟨_, _, _, hq, Bm, Bo, O.weak (fun i hi => .inl hi), G⟩
  · -- c1F
   first | with_reducible (replace hb2 := nb_nf hb2) | with_reducible (replace hb2 := nb_tf hb2) | with_reducible (replace hb2 := nb_bf hb2) | skip
   obtain ⟨f1, hf1, hf2⟩ := fuel_pos hb hnN hb2 hf
   obtain ⟨g3, o3, E3, d3, rfl, hp3, cc30, hE30⟩ := hA.cell hnN
   have cc3 := cc30
   have hE3 := hE30
   have hz4 := hz3 n hnN
   have hdw := dw1_new (cs := h.cells) (f := f1) hb2
   rw [← hf1, refsOf_at hnN] at hdw
   have hbs := hb.snoc hnN hb2
   refine wp_skip ?_
   refine th_n (hK2 _ _ ?_)
   clear hK2 K2
   refine wp_seq_k fun K4 hK4 => ?_
   refine Sb 52 rfl ?_  -- 2
   refine S_val (Y_move rfl) ?_
   refine S_val (Y_move rfl) ?_
   refine S_val (Y_index Try.underlying43 sz4 rfl rfl (by first | assumption | omega)) ?_
   refine S_stM (pre := (bools (mB h.cells.length s)).take n) (old := [.bool (decide ((n : Int) ∈ s))]) (post := (bools (mB h.cells.length s)).drop (n + 1)) (vs := [_]) sz4 rfl rfl rfl rfl (by rw [← mB_split hnN]; exact Bm) (by rw [List.length_take, bools_len, mB_len]; omega) rfl ?_
   intro w2 m2 X2
   replace Bm := Blk.eq X2 (mB_set hnN)
   clear X2
   replace G := Mod.trans' G m2 (fun _ h _ => h) (fun i h hi => by first | exact h | exact .inl h | exact .inr (.inl h) | exact .inr (.inr h) | (rcases h with h | h <;> first | exact .inr (.inr h) | omega) | (rcases h with h | h | h | h <;> first | exact .inl h | exact .inr (.inl h) | exact .inr (.inr h) | omega))
   replace hA := hA.mod m2 (by intro k hk h; first | omega | (dsimp only at hk h; omega) | (dsimp only at hk; omega) | (have h2 := hP _ h; omega) | (have h2 := hP _ hk; omega) | (rcases hk with hk | hk <;> first | omega | (have h2 := hP _ hk; omega)) | (rcases h with h | h | h | h <;> rcases hk with hk | hk <;> first | omega | (have h2 := hP _ hk; omega)) | (rcases h with h | h <;> first | omega | (have h2 := hP _ h; omega)) | (rcases h with h | h | h | h <;> first | omega | (have h2 := hP _ h; omega)))
   replace O := O.mod m2 (by intro k hk h; first | omega | (dsimp only at hk h; omega) | (dsimp only at hk; omega) | (have h2 := hP _ h; omega) | (have h2 := hP _ hk; omega) | (rcases hk with hk | hk <;> first | omega | (have h2 := hP _ hk; omega)) | (rcases h with h | h | h | h <;> rcases hk with hk | hk <;> first | omega | (have h2 := hP _ hk; omega)) | (rcases h with h | h <;> first | omega | (have h2 := hP _ h; omega)) | (rcases h with h | h | h | h <;> first | omega | (have h2 := hP _ h; omega)))
   replace hE3 := hE3.mod m2 (by intro k hk h; first | omega | (dsimp only at hk h; omega) | (dsimp only at hk; omega) | (have h2 := hP _ h; omega) | (have h2 := hP _ hk; omega) | (rcases hk with hk | hk <;> first | omega | (have h2 := hP _ hk; omega)) | (rcases h with h | h | h | h <;> rcases hk with hk | hk <;> first | omega | (have h2 := hP _ hk; omega)) | (rcases h with h | h <;> first | omega | (have h2 := hP _ h; omega)) | (rcases h with h | h | h | h <;> first | omega | (have h2 := hP _ h; omega)))
   replace Bo := Bo.mod m2 (by intro h; first | omega | (dsimp only at h; omega) | (have h2 := hP _ h; omega) | (have h2 := hP _ hk; omega) | (rcases hk with hk | hk <;> first | omega | (have h2 := hP _ hk; omega)) | (rcases h with h | h | h | h <;> rcases hk with hk | hk <;> first | omega | (have h2 := hP _ hk; omega)) | (rcases h with h | h <;> first | omega | (have h2 := hP _ h; omega)) | (rcases h with h | h | h | h <;> first | omega | (have h2 := hP _ h; omega)))
   replace B1 := B1.mod m2 (by intro h; first | omega | (dsimp only at h; omega) | (have h2 := hP _ h; omega) | (have h2 := hP _ hk; omega) | (rcases hk with hk | hk <;> first | omega | (have h2 := hP _ hk; omega)) | (rcases h with h | h | h | h <;> rcases hk with hk | hk <;> first | omega | (have h2 := hP _ hk; omega)) | (rcases h with h | h <;> first | omega | (have h2 := hP _ h; omega)) | (rcases h with h | h | h | h <;> first | omega | (have h2 := hP _ h; omega)))
   replace cc3 := cc3.mod m2 (by intro h; first | omega | (dsimp only at h; omega) | (have h2 := hP _ h; omega) | (have h2 := hP _ hk; omega) | (rcases hk with hk | hk <;> first | omega | (have h2 := hP _ hk; omega)) | (rcases h with h | h | h | h <;> rcases hk with hk | hk <;> first | omega | (have h2 := hP _ hk; omega)) | (rcases h with h | h <;> first | omega | (have h2 := hP _ h; omega)) | (rcases h with h | h | h | h <;> first | omega | (have h2 := hP _ h; omega)))
   have zm2 := m2.size
   refine S_nl rfl rfl ?_
   refine th_n (hK4 _ _ ?_)
   clear hK4 K4
   refine wp_seq_k fun K5 hK5 => ?_
   refine Sb 52 rfl ?_  -- 3
   refine S_val (Y_move rfl) ?_
   refine S_val (Y_move rfl) ?_
   refine S_val (Y_nil rfl) ?_
   refine S_val (Y_load Try.underlying33 rfl rfl (Bo.at (by rfl))) ?_  -- l2
   refine S_val (Y_move rfl) ?_
   refine S_bs1 (cs := [_]) Try.underlying33 zr3 sz3 rfl rfl rfl ?_
   intro b3 w3 fb3 g3 B3
   have lb3 := B3.lt
   replace hA := hA.grow g3
   replace O := O.grow g3
   replace hE3 := hE3.grow g3
   replace G := G.grow g3
   replace Bm := Bm.grow g3
   replace Bo := Bo.grow g3
   replace B1 := B1.grow g3
   replace cc3 := cc3.grow g3
   have zg3 := g3.size
   refine S_app Try.underlying33 zr3 sz3 by3 rfl rfl O rfl (Src.blk B3) (by simp [Value.oneCell']) (by omega) (Pr' := fun i => Pr i ∨ b1 < i) (fun i hi => .inl hi) (by omega) ?_
   intro A4 cap4 w4 X4 m4
   replace O := X4
   rw [ints_app] at O
   clear X4
   replace G := Mod.trans' G m4 (fun _ h _ => h) (fun i h hi => by first | exact h | exact .inl h | exact .inr (.inl h) | exact .inr (.inr h) | (rcases h with h | h <;> first | exact .inr (.inr h) | omega) | (rcases h with h | h | h | h <;> first | exact .inl h | exact .inr (.inl h) | exact .inr (.inr h) | omega))
   replace hA := hA.mod m4 (by intro k hk h; first | omega | (dsimp only at hk h; omega) | (dsimp only at hk; omega) | (have h2 := hP _ h; omega) | (have h2 := hP _ hk; omega) | (rcases hk with hk | hk <;> first | omega | (have h2 := hP _ hk; omega)) | (rcases h with h | h | h | h <;> rcases hk with hk | hk <;> first | omega | (have h2 := hP _ hk; omega)) | (rcases h with h | h <;> first | omega | (have h2 := hP _ h; omega)) | (rcases h with h | h | h | h <;> first | omega | (have h2 := hP _ h; omega)))
   replace hE3 := hE3.mod m4 (by intro k hk h; first | omega | (dsimp only at hk h; omega) | (dsimp only at hk; omega) | (have h2 := hP _ h; omega) | (have h2 := hP _ hk; omega) | (rcases hk with hk | hk <;> first | omega | (have h2 := hP _ hk; omega)) | (rcases h with h | h | h | h <;> rcases hk with hk | hk <;> first | omega | (have h2 := hP _ hk; omega)) | (rcases h with h | h <;> first | omega | (have h2 := hP _ h; omega)) | (rcases h with h | h | h | h <;> first | omega | (have h2 := hP _ h; omega)))
   replace Bm := Bm.mod m4 (by intro h; first | omega | (dsimp only at h; omega) | (have h2 := hP _ h; omega) | (have h2 := hP _ hk; omega) | (rcases hk with hk | hk <;> first | omega | (have h2 := hP _ hk; omega)) | (rcases h with h | h | h | h <;> rcases hk with hk | hk <;> first | omega | (have h2 := hP _ hk; omega)) | (rcases h with h | h <;> first | omega | (have h2 := hP _ h; omega)) | (rcases h with h | h | h | h <;> first | omega | (have h2 := hP _ h; omega)))
   replace Bo := Bo.mod m4 (by intro h; first | omega | (dsimp only at h; omega) | (have h2 := hP _ h; omega) | (have h2 := hP _ hk; omega) | (rcases hk with hk | hk <;> first | omega | (have h2 := hP _ hk; omega)) | (rcases h with h | h | h | h <;> rcases hk with hk | hk <;> first | omega | (have h2 := hP _ hk; omega)) | (rcases h with h | h <;> first | omega | (have h2 := hP _ h; omega)) | (rcases h with h | h | h | h <;> first | omega | (have h2 := hP _ h; omega)))
   replace B1 := B1.mod m4 (by intro h; first | omega | (dsimp only at h; omega) | (have h2 := hP _ h; omega) | (have h2 := hP _ hk; omega) | (rcases hk with hk | hk <;> first | omega | (have h2 := hP _ hk; omega)) | (rcases h with h | h | h | h <;> rcases hk with hk | hk <;> first | omega | (have h2 := hP _ hk; omega)) | (rcases h with h | h <;> first | omega | (have h2 := hP _ h; omega)) | (rcases h with h | h | h | h <;> first | omega | (have h2 := hP _ h; omega)))
   replace cc3 := cc3.mod m4 (by intro h; first | omega | (dsimp only at h; omega) | (have h2 := hP _ h; omega) | (have h2 := hP _ hk; omega) | (rcases hk with hk | hk <;> first | omega | (have h2 := hP _ hk; omega)) | (rcases h with h | h | h | h <;> rcases hk with hk | hk <;> first | omega | (have h2 := hP _ hk; omega)) | (rcases h with h | h <;> first | omega | (have h2 := hP _ h; omega)) | (rcases h with h | h | h | h <;> first | omega | (have h2 := hP _ h; omega)))
   have zm4 := m4.size
   refine S_val (Y_nil rfl) ?_
   refine S_stM (pre := []) (old := [_]) (post := []) (vs := [_]) sz33 rfl rfl rfl (by first | rfl | assumption) Bo rfl rfl ?_
   intro w5 m5 X5
   replace Bo := Blk.eq (ys := [_]) X5 rfl
   clear X5
   replace G := Mod.trans' G m5 (fun _ h _ => h) (fun i h hi => by first | exact h | exact .inl h | exact .inr (.inl h) | exact .inr (.inr h) | (rcases h with h | h <;> first | exact .inr (.inr h) | omega) | (rcases h with h | h | h | h <;> first | exact .inl h | exact .inr (.inl h) | exact .inr (.inr h) | omega))
   replace hA := hA.mod m5 (by intro k hk h; first | omega | (dsimp only at hk h; omega) | (dsimp only at hk; omega) | (have h2 := hP _ h; omega) | (have h2 := hP _ hk; omega) | (rcases hk with hk | hk <;> first | omega | (have h2 := hP _ hk; omega)) | (rcases h with h | h | h | h <;> rcases hk with hk | hk <;> first | omega | (have h2 := hP _ hk; omega)) | (rcases h with h | h <;> first | omega | (have h2 := hP _ h; omega)) | (rcases h with h | h | h | h <;> first | omega | (have h2 := hP _ h; omega)))
   replace O := O.mod m5 (by intro k hk h; first | omega | (dsimp only at hk h; omega) | (dsimp only at hk; omega) | (have h2 := hP _ h; omega) | (have h2 := hP _ hk; omega) | (rcases hk with hk | hk <;> first | omega | (have h2 := hP _ hk; omega)) | (rcases h with h | h | h | h <;> rcases hk with hk | hk <;> first | omega | (have h2 := hP _ hk; omega)) | (rcases h with h | h <;> first | omega | (have h2 := hP _ h; omega)) | (rcases h with h | h | h | h <;> first | omega | (have h2 := hP _ h; omega)))
   replace hE3 := hE3.mod m5 (by intro k hk h; first | omega | (dsimp only at hk h; omega) | (dsimp only at hk; omega) | (have h2 := hP _ h; omega) | (have h2 := hP _ hk; omega) | (rcases hk with hk | hk <;> first | omega | (have h2 := hP _ hk; omega)) | (rcases h with h | h | h | h <;> rcases hk with hk | hk <;> first | omega | (have h2 := hP _ hk; omega)) | (rcases h with h | h <;> first | omega | (have h2 := hP _ h; omega)) | (rcases h with h | h | h | h <;> first | omega | (have h2 := hP _ h; omega)))
   replace Bm := Bm.mod m5 (by intro h; first | omega | (dsimp only at h; omega) | (have h2 := hP _ h; omega) | (have h2 := hP _ hk; omega) | (rcases hk with hk | hk <;> first | omega | (have h2 := hP _ hk; omega)) | (rcases h with h | h | h | h <;> rcases hk with hk | hk <;> first | omega | (have h2 := hP _ hk; omega)) | (rcases h with h | h <;> first | omega | (have h2 := hP _ h; omega)) | (rcases h with h | h | h | h <;> first | omega | (have h2 := hP _ h; omega)))
   replace B1 := B1.mod m5 (by intro h; first | omega | (dsimp only at h; omega) | (have h2 := hP _ h; omega) | (have h2 := hP _ hk; omega) | (rcases hk with hk | hk <;> first | omega | (have h2 := hP _ hk; omega)) | (rcases h with h | h | h | h <;> rcases hk with hk | hk <;> first | omega | (have h2 := hP _ hk; omega)) | (rcases h with h | h <;> first | omega | (have h2 := hP _ h; omega)) | (rcases h with h | h | h | h <;> first | omega | (have h2 := hP _ h; omega)))
   replace cc3 := cc3.mod m5 (by intro h; first | omega | (dsimp only at h; omega) | (have h2 := hP _ h; omega) | (have h2 := hP _ hk; omega) | (rcases hk with hk | hk <;> first | omega | (have h2 := hP _ hk; omega)) | (rcases h with h | h | h | h <;> rcases hk with hk | hk <;> first | omega | (have h2 := hP _ hk; omega)) | (rcases h with h | h <;> first | omega | (have h2 := hP _ h; omega)) | (rcases h with h | h | h | h <;> first | omega | (have h2 := hP _ h; omega)))
   have zm5 := m5.size
   refine S_nl rfl rfl ?_
   refine th_n (hK5 _ _ ?_)
   clear hK5 K5
   refine wp_seq_k fun K6 hK6 => ?_
   refine Sb 52 rfl ?_  -- 4
   refine S_val (Y_assign rfl) ?_
   refine S_nl rfl rfl ?_
   refine th_n (hK6 _ _ ?_)
   clear hK6 K6
   refine wp_block ?_
   go_loopw [8] (fun u8 wr => (∃ (j q cap : Nat) (A1 : Option Addr) (s2 : List Int), u8 = .int .i64 j ∧ j ≤ h.cells[n].refs.length ∧ q = s2.length ∧ s2 = (h.cells[n].refs.take j).foldl (dw1 h.cells f1) (s ++ [(n : Int)]) ∧ Blk wr bm 4 (bools (mB h.cells.length s2)).toArray ∧ Blk wr bo 33 [.slice A1 q cap].toArray ∧ OW (fun i => Pr i ∨ b1 < i) wr 3 1 A1 q cap (ints s2)) ∧ Mod (fun i => i = bm ∨ i = bo ∨ Pr i ∨ b1 < i) w5 wr) (fun u8 wr => h.cells[n].refs.length - (intOf u8).toNat)  -- L1
   case atStart =>
    refine ⟨?_, Mod.refl _ _⟩
    exact ⟨0, _, _, _, _, rfl, by omega, by rw [List.take_zero, List.foldl_nil, List.length_append]; simp; omega, rfl, Bm, Bo, O⟩
   case round =>
    obtain ⟨w6, rfl⟩ : ∃ x : World, x = wr := ⟨_, rfl⟩
    obtain ⟨hrel, g6⟩ := hrel
    clear Bm
    clear Bo
    clear O
    replace G := Mod.trans' G g6 (fun _ h _ => h) (fun i h hi => by first | exact h | exact .inl h | exact .inr (.inl h) | exact .inr (.inr h) | (rcases h with h | h <;> first | exact .inr (.inr h) | omega) | (rcases h with h | h | h | h <;> first | exact .inl h | exact .inr (.inl h) | exact .inr (.inr h) | omega))
    replace hA := hA.mod g6 (by intro k hk h; first | omega | (dsimp only at hk h; omega) | (dsimp only at hk; omega) | (have h2 := hP _ h; omega) | (have h2 := hP _ hk; omega) | (rcases hk with hk | hk <;> first | omega | (have h2 := hP _ hk; omega)) | (rcases h with h | h | h | h <;> rcases hk with hk | hk <;> first | omega | (have h2 := hP _ hk; omega)) | (rcases h with h | h <;> first | omega | (have h2 := hP _ h; omega)) | (rcases h with h | h | h | h <;> first | omega | (have h2 := hP _ h; omega)))
    replace hE3 := hE3.mod g6 (by intro k hk h; first | omega | (dsimp only at hk h; omega) | (dsimp only at hk; omega) | (have h2 := hP _ h; omega) | (have h2 := hP _ hk; omega) | (rcases hk with hk | hk <;> first | omega | (have h2 := hP _ hk; omega)) | (rcases h with h | h | h | h <;> rcases hk with hk | hk <;> first | omega | (have h2 := hP _ hk; omega)) | (rcases h with h | h <;> first | omega | (have h2 := hP _ h; omega)) | (rcases h with h | h | h | h <;> first | omega | (have h2 := hP _ h; omega)))
    replace B1 := B1.mod g6 (by intro h; first | omega | (dsimp only at h; omega) | (have h2 := hP _ h; omega) | (have h2 := hP _ hk; omega) | (rcases hk with hk | hk <;> first | omega | (have h2 := hP _ hk; omega)) | (rcases h with h | h | h | h <;> rcases hk with hk | hk <;> first | omega | (have h2 := hP _ hk; omega)) | (rcases h with h | h <;> first | omega | (have h2 := hP _ h; omega)) | (rcases h with h | h | h | h <;> first | omega | (have h2 := hP _ h; omega)))
    replace cc3 := cc3.mod g6 (by intro h; first | omega | (dsimp only at h; omega) | (have h2 := hP _ h; omega) | (have h2 := hP _ hk; omega) | (rcases hk with hk | hk <;> first | omega | (have h2 := hP _ hk; omega)) | (rcases h with h | h | h | h <;> rcases hk with hk | hk <;> first | omega | (have h2 := hP _ hk; omega)) | (rcases h with h | h <;> first | omega | (have h2 := hP _ h; omega)) | (rcases h with h | h | h | h <;> first | omega | (have h2 := hP _ h; omega)))
    have zg6 := g6.size
    obtain ⟨j, q2, cap2, A2, s2, rfl, hj, hq2, hs2, Bm, Bo, O⟩ := hrel
    have hsb := dws_bnd hl f1 (fun x hx ho => hl.refs hnN x (List.mem_of_mem_take hx) ho) hbs (xs := h.cells[n].refs.take j)
    rw [← hs2] at hsb
    have hsl2 := hsb.2.len
    have hsl3 := hsb.1
    have GL6 := g6
    refine wp_seq_k fun K7 hK7 => ?_
    refine wp_seq_k fun K8 hK8 => ?_
    refine Sb 52 rfl ?_  -- 5
    refine S_val (Y_move rfl) ?_
    refine S_val (Y_field Try.underlying35 rfl fz35_0 (by decide) rfl) ?_
    refine S_val (Y_load Try.underlying32 rfl rfl (B1.at (by rfl))) ?_  -- l3
    refine S_val (Y_move rfl) ?_
    refine S_val (Y_index Try.underlying32 sz39 rfl rfl (by first | assumption | omega)) ?_
    refine S_val (Y_field Try.underlying39 rfl fz39_2 (by decide) rfl) ?_
    refine S_val (Y_load Try.underlying33 rfl rfl (by first | assumption | exact B1.at (by rfl) | exact cc3.at (by rfl) | exact Bm.at (by rfl) | exact Bo.at (by rfl))) ?_  -- l4
    refine S_val (Y_len Try.underlying33 rfl) ?_
    refine S_val (Y_lss rfl rfl) ?_
    refine S_nl rfl rfl ?_
    refine th_n (hK8 _ _ ?_)
    clear hK8 K8
    refine S_if rfl (fun hb3 => ?_) (fun hb3 => ?_)  -- c2
    · -- c2T
     replace hb3 := nb_tt hb3
     have hj1 : j < h.cells[n].refs.length := by omega
     have hfs := foldl_succ (g := dw1 h.cells f1) (b := s ++ [(n : Int)]) hj1
     rw [← hs2] at hfs
     refine wp_skip ?_
     refine th_n (hK7 _ _ ?_)
     clear hK7 K7
     refine wp_seq_k fun K9 hK9 => ?_
     refine wp_block ?_
     refine D_start 13 52 (fun w => Mod (fun i => i = bm ∨ i = bo ∨ Pr i ∨ b1 < i) w) follows rfl rfl ?_  -- d1 r7
     intro w7 g7
     replace hA := hA.grow g7
     replace hE3 := hE3.grow g7
     replace O := O.grow g7
     replace G := G.grow g7
     replace GL6 := GL6.grow g7
     replace B1 := B1.grow g7
     replace cc3 := cc3.grow g7
     replace Bm := Bm.grow g7
     replace Bo := Bo.grow g7
     have zg7 := g7.size
     have GS7 := Mod.refl (fun i => i = bm ∨ i = bo ∨ Pr i ∨ b1 < i) w7
     obtain ⟨g4, o4, rfl, hp4, hc4⟩ := hE3.int hj1
     refine Dq (i := 0) rfl GS7 (fun _ hs => Y_loadS Try.underlying35 rfl sz35 rfl (by first | exact CellsAt.mod (B1.row (by rfl)) hs (by intro h; first | omega | (dsimp only at h; omega) | (have h2 := hP _ h; omega) | (have h2 := hP _ hk; omega) | (rcases hk with hk | hk <;> first | omega | (have h2 := hP _ hk; omega)) | (rcases h with h | h | h | h <;> rcases hk with hk | hk <;> first | omega | (have h2 := hP _ hk; omega)) | (rcases h with h | h <;> first | omega | (have h2 := hP _ h; omega)) | (rcases h with h | h | h | h <;> first | omega | (have h2 := hP _ h; omega))))) ?_
     refine Dq (i := 1) rfl GS7 (fun _ _ => Y_field Try.underlying35 rfl fz35_0 (by decide) rfl) ?_
     refine Dq (i := 2) rfl GS7 (fun _ hs => Y_load Try.underlying32 rfl rfl (by first | exact hs.cell (B1.at (by rfl)) (by intro h; first | omega | (dsimp only at h; omega) | (have h2 := hP _ h; omega) | (have h2 := hP _ hk; omega) | (rcases hk with hk | hk <;> first | omega | (have h2 := hP _ hk; omega)) | (rcases h with h | h | h | h <;> rcases hk with hk | hk <;> first | omega | (have h2 := hP _ hk; omega)) | (rcases h with h | h <;> first | omega | (have h2 := hP _ h; omega)) | (rcases h with h | h | h | h <;> first | omega | (have h2 := hP _ h; omega))))) ?_
     refine Dq (i := 3) rfl GS7 (fun _ _ => Y_move rfl) ?_
     refine Dq (i := 4) rfl GS7 (fun _ _ => Y_index Try.underlying32 sz39 rfl rfl (by first | assumption | omega)) ?_
     refine Dq (i := 5) rfl GS7 (fun _ _ => Y_field Try.underlying39 rfl fz39_2 (by decide) rfl) ?_
     refine Dq (i := 6) rfl GS7 (fun _ hs => Y_load Try.underlying33 rfl rfl (by first | exact hs.cell (by assumption) (by intro h; first | omega | (dsimp only at h; omega) | (have h2 := hP _ h; omega) | (have h2 := hP _ hk; omega) | (rcases hk with hk | hk <;> first | omega | (have h2 := hP _ hk; omega)) | (rcases h with h | h | h | h <;> rcases hk with hk | hk <;> first | omega | (have h2 := hP _ hk; omega)) | (rcases h with h | h <;> first | omega | (have h2 := hP _ h; omega)) | (rcases h with h | h | h | h <;> first | omega | (have h2 := hP _ h; omega))) | exact hs.cell (B1.at (by rfl)) (by intro h; first | omega | (dsimp only at h; omega) | (have h2 := hP _ h; omega) | (have h2 := hP _ hk; omega) | (rcases hk with hk | hk <;> first | omega | (have h2 := hP _ hk; omega)) | (rcases h with h | h | h | h <;> rcases hk with hk | hk <;> first | omega | (have h2 := hP _ hk; omega)) | (rcases h with h | h <;> first | omega | (have h2 := hP _ h; omega)) | (rcases h with h | h | h | h <;> first | omega | (have h2 := hP _ h; omega))) | exact hs.cell (cc3.at (by rfl)) (by intro h; first | omega | (dsimp only at h; omega) | (have h2 := hP _ h; omega) | (have h2 := hP _ hk; omega) | (rcases hk with hk | hk <;> first | omega | (have h2 := hP _ hk; omega)) | (rcases h with h | h | h | h <;> rcases hk with hk | hk <;> first | omega | (have h2 := hP _ hk; omega)) | (rcases h with h | h <;> first | omega | (have h2 := hP _ h; omega)) | (rcases h with h | h | h | h <;> first | omega | (have h2 := hP _ h; omega))) | exact hs.cell (Bm.at (by rfl)) (by intro h; first | omega | (dsimp only at h; omega) | (have h2 := hP _ h; omega) | (have h2 := hP _ hk; omega) | (rcases hk with hk | hk <;> first | omega | (have h2 := hP _ hk; omega)) | (rcases h with h | h | h | h <;> rcases hk with hk | hk <;> first | omega | (have h2 := hP _ hk; omega)) | (rcases h with h | h <;> first | omega | (have h2 := hP _ h; omega)) | (rcases h with h | h | h | h <;> first | omega | (have h2 := hP _ h; omega))) | exact hs.cell (Bo.at (by rfl)) (by intro h; first | omega | (dsimp only at h; omega) | (have h2 := hP _ h; omega) | (have h2 := hP _ hk; omega) | (rcases hk with hk | hk <;> first | omega | (have h2 := hP _ hk; omega)) | (rcases h with h | h | h | h <;> rcases hk with hk | hk <;> first | omega | (have h2 := hP _ hk; omega)) | (rcases h with h | h <;> first | omega | (have h2 := hP _ h; omega)) | (rcases h with h | h | h | h <;> first | omega | (have h2 := hP _ h; omega))))) ?_
     refine Dq (i := 7) rfl GS7 (fun _ _ => Y_move rfl) ?_
     refine Dq (i := 8) rfl GS7 (fun _ _ => Y_index Try.underlying33 sz3 rfl rfl (by first | assumption | omega)) ?_
     refine Dq (i := 9) rfl GS7 (fun _ hs => Y_load Try.underlying3 rfl rfl (by first | exact hs.cell (by assumption) (by intro h; first | omega | (dsimp only at h; omega) | (have h2 := hP _ h; omega) | (have h2 := hP _ hk; omega) | (rcases hk with hk | hk <;> first | omega | (have h2 := hP _ hk; omega)) | (rcases h with h | h | h | h <;> rcases hk with hk | hk <;> first | omega | (have h2 := hP _ hk; omega)) | (rcases h with h | h <;> first | omega | (have h2 := hP _ h; omega)) | (rcases h with h | h | h | h <;> first | omega | (have h2 := hP _ h; omega))) | exact hs.cell (B1.at (by rfl)) (by intro h; first | omega | (dsimp only at h; omega) | (have h2 := hP _ h; omega) | (have h2 := hP _ hk; omega) | (rcases hk with hk | hk <;> first | omega | (have h2 := hP _ hk; omega)) | (rcases h with h | h | h | h <;> rcases hk with hk | hk <;> first | omega | (have h2 := hP _ hk; omega)) | (rcases h with h | h <;> first | omega | (have h2 := hP _ h; omega)) | (rcases h with h | h | h | h <;> first | omega | (have h2 := hP _ h; omega))) | exact hs.cell (cc3.at (by rfl)) (by intro h; first | omega | (dsimp only at h; omega) | (have h2 := hP _ h; omega) | (have h2 := hP _ hk; omega) | (rcases hk with hk | hk <;> first | omega | (have h2 := hP _ hk; omega)) | (rcases h with h | h | h | h <;> rcases hk with hk | hk <;> first | omega | (have h2 := hP _ hk; omega)) | (rcases h with h | h <;> first | omega | (have h2 := hP _ h; omega)) | (rcases h with h | h | h | h <;> first | omega | (have h2 := hP _ h; omega))) | exact hs.cell (Bm.at (by rfl)) (by intro h; first | omega | (dsimp only at h; omega) | (have h2 := hP _ h; omega) | (have h2 := hP _ hk; omega) | (rcases hk with hk | hk <;> first | omega | (have h2 := hP _ hk; omega)) | (rcases h with h | h | h | h <;> rcases hk with hk | hk <;> first | omega | (have h2 := hP _ hk; omega)) | (rcases h with h | h <;> first | omega | (have h2 := hP _ h; omega)) | (rcases h with h | h | h | h <;> first | omega | (have h2 := hP _ h; omega))) | exact hs.cell (Bo.at (by rfl)) (by intro h; first | omega | (dsimp only at h; omega) | (have h2 := hP _ h; omega) | (have h2 := hP _ hk; omega) | (rcases hk with hk | hk <;> first | omega | (have h2 := hP _ hk; omega)) | (rcases h with h | h | h | h <;> rcases hk with hk | hk <;> first | omega | (have h2 := hP _ hk; omega)) | (rcases h with h | h <;> first | omega | (have h2 := hP _ h; omega)) | (rcases h with h | h | h | h <;> first | omega | (have h2 := hP _ h; omega))))) ?_
     refine Dq (i := 10) rfl GS7 (fun _ _ => Y_move rfl) ?_
     refine Dq (i := 11) rfl GS7 (fun _ _ => Y_move rfl) ?_
     refine D_1 (i := 12) (by kernel_rfl) ?_
     refine E_call rfl rfl en78 (ih f1 hf1 (fun i => (Pr i ∨ b1 < i) ∧ i < w7.heap.size) h _ _ _ _ _ lo bm bo _ _ _ _ _ (fun k hk => ⟨hk.1.elim (fun h => (hP k h).1) (fun h => by omega), hk.1.elim (fun h => (hP k h).2.1) (fun h => by omega), hk.1.elim (fun h => (hP k h).2.2.1) (fun h => by omega), hk.2⟩) hA hz Bm Bo O.lt hq2 (fun ho => hl.refs hnN _ (List.getElem_mem hj1) ho) hl hN hsb.2 (by omega) ⟨by omega, by omega, by omega, by omega, by omega⟩) ?_  -- k1 spec.l12Walk
     rintro v8 w8 ⟨q3, cap3, A3, hq3, X8, Y8, Z8, m8⟩
     replace Bm := X8
     replace Bo := Y8
     replace O := Z8.weak (fun i hi => hi.elim (fun h => h.1) (fun h => .inr (by omega)))
     clear X8 Y8 Z8
     replace m8 := m8.weak (T := (fun i => i = bm ∨ i = bo ∨ Pr i ∨ b1 < i)) (fun i hi _ => by rcases hi with h | h | h; exact .inl h; exact .inr (.inl h); exact .inr (.inr h.1))
     replace G := Mod.trans' G m8 (fun _ h _ => h) (fun i h hi => by first | exact h | exact .inl h | exact .inr (.inl h) | exact .inr (.inr h) | (rcases h with h | h <;> first | exact .inr (.inr h) | omega) | (rcases h with h | h | h | h <;> first | exact .inl h | exact .inr (.inl h) | exact .inr (.inr h) | omega))
     replace GL6 := Mod.trans' GL6 m8 (fun _ h _ => h) (fun i h _ => by first | exact h | omega | (dsimp only at h ⊢; omega) | (subst h; rfl) | (subst h; exact ⟨by omega, rfl⟩) | exact .inl h | exact .inr (.inl h) | exact .inr (.inr h))
     replace GS7 := Mod.trans' GS7 m8 (fun _ h _ => h) (fun i h _ => by first | exact h | omega | (dsimp only at h ⊢; omega) | (subst h; rfl) | (subst h; exact ⟨by omega, rfl⟩) | exact .inl h | exact .inr (.inl h) | exact .inr (.inr h))
     replace hA := hA.mod m8 (by intro k hk h; first | omega | (dsimp only at hk h; omega) | (dsimp only at hk; omega) | (have h2 := hP _ h; omega) | (have h2 := hP _ hk; omega) | (rcases hk with hk | hk <;> first | omega | (have h2 := hP _ hk; omega)) | (rcases h with h | h | h | h <;> rcases hk with hk | hk <;> first | omega | (have h2 := hP _ hk; omega)) | (rcases h with h | h <;> first | omega | (have h2 := hP _ h; omega)) | (rcases h with h | h | h | h <;> first | omega | (have h2 := hP _ h; omega)))
     replace hE3 := hE3.mod m8 (by intro k hk h; first | omega | (dsimp only at hk h; omega) | (dsimp only at hk; omega) | (have h2 := hP _ h; omega) | (have h2 := hP _ hk; omega) | (rcases hk with hk | hk <;> first | omega | (have h2 := hP _ hk; omega)) | (rcases h with h | h | h | h <;> rcases hk with hk | hk <;> first | omega | (have h2 := hP _ hk; omega)) | (rcases h with h | h <;> first | omega | (have h2 := hP _ h; omega)) | (rcases h with h | h | h | h <;> first | omega | (have h2 := hP _ h; omega)))
     replace B1 := B1.mod m8 (by intro h; first | omega | (dsimp only at h; omega) | (have h2 := hP _ h; omega) | (have h2 := hP _ hk; omega) | (rcases hk with hk | hk <;> first | omega | (have h2 := hP _ hk; omega)) | (rcases h with h | h | h | h <;> rcases hk with hk | hk <;> first | omega | (have h2 := hP _ hk; omega)) | (rcases h with h | h <;> first | omega | (have h2 := hP _ h; omega)) | (rcases h with h | h | h | h <;> first | omega | (have h2 := hP _ h; omega)))
     replace cc3 := cc3.mod m8 (by intro h; first | omega | (dsimp only at h; omega) | (have h2 := hP _ h; omega) | (have h2 := hP _ hk; omega) | (rcases hk with hk | hk <;> first | omega | (have h2 := hP _ hk; omega)) | (rcases h with h | h | h | h <;> rcases hk with hk | hk <;> first | omega | (have h2 := hP _ hk; omega)) | (rcases h with h | h <;> first | omega | (have h2 := hP _ h; omega)) | (rcases h with h | h | h | h <;> first | omega | (have h2 := hP _ h; omega)))
     have zm8 := m8.size
     refine ⟨GS7, ?_⟩
     refine D_en (by kernel_rfl) rfl rfl ?_
     refine ib_n ?_
     refine th_n (hK9 _ _ ?_)
     clear hK9 K9
     refine Sb 52 rfl ?_  -- 6
     refine S_val (Y_move rfl) ?_
     refine S_val (Y_inc rfl rfl (by omega)) ?_
     refine S_val (Y_assign rfl) ?_
     refine S_nl rfl rfl ?_
     refine th_n ?_
     go_roundw  -- e1 of L1
     case rel =>
      refine ⟨?_, GL6⟩
      exact ⟨j + 1, _, _, _, _, rfl, by omega, hq3, hfs.symm, Bm, Bo, O⟩
     case measure =>
      exact dec_nat (by omega)
    · -- c2F
     replace hb3 := nb_tf hb3
     refine wp_exit ?_
     refine th_x ?_
     try clear GL6
     refine th_x ?_
     refine ib_e ?_
     clear hK7 K7
     refine ret_n0 rfl ?_  -- r3
     rw [List.take_of_length_le (by omega)] at hs2
     rw [← hs2] at hdw
     rw [hdw]
     exact ⟨_, _, _, hq2, Bm, Bo, O.weak (fun i hi => hi.elim .inl (fun h => .inr (by omega))), G⟩
theorem walk_ok : ∀ f, WalkOK f
  | 0 => walk_step 0 (fun _ h => by omega)
  | f + 1 => walk_step (f + 1) (fun f' h => by cases h; exact walk_ok f)
set_option maxHeartbeats 400000 in
set_option maxRecDepth 20000 in
theorem spec_MarkDepth_c (Pr : Nat → Prop) (A B : Option Addr) (h : LH) (c d : Nat) (w : World) (hA : RC Pr w A h.cells) (hB : R1 Pr w B (ints h.roots)) (hz : hsize h ≤ 1048576) :
    Calls Try.prog 40 #[.agg #[.slice A h.cells.length c, .slice B h.roots.length d]] w (Ret fun v w' => ∃ A1 q cap, v = .slice A1 q cap ∧ q = (depthV h).length ∧ OI (fun i => w.heap.size ≤ i) w' 3 A1 (ints (depthV h)) ∧ Grow w w') := by
 have hz1 := hsize_cells h
 have hz2 := hsize_roots h
 have hz3 : ∀ k (hk : k < h.cells.length), h.cells[k].refs.length ≤ hsize h := fun k hk => hsize_refs h hk
 have hAl := hA.below
 have hBl := hB.below
 refine enter Try.func40 rfl Try.ntmps40 (L := [_,_,_,_,_,_,_,_,_,_,_,_,_,_,_,_,_,_,_,_,_,_,_,_,_,_,_,_,_,_,_]) rfl ?_
 have G := Mod.refl No w
 have hAl0 := hAl
 have hBl0 := hBl
 refine wp_seq_k fun K1 hK1 => ?_
 refine Sb 31 rfl ?_  -- 0
 refine S_box (cs := [_, _]) rfl rfl ?_
 intro b1 w1 fb1 g1 B1
 have lb1 := B1.lt
 replace hAl := hAl.grow g1
 replace hBl := hBl.grow g1
 replace G := G.grow g1
 have zg1 := g1.size
 refine S_val (Y_assign rfl) ?_
 refine S_nl rfl rfl ?_
 refine th_n (hK1 _ _ ?_)
 clear hK1 K1
 refine wp_seq_k fun K2 hK2 => ?_
 refine Sb 31 rfl ?_  -- 1
 refine S_bs0 Try.underlying33 sz3 ?_
 intro b2 w2 fb2 g2 B2
 have lb2 := B2.lt
 replace hAl := hAl.grow g2
 replace hBl := hBl.grow g2
 replace G := G.grow g2
 replace B1 := B1.grow g2
 have zg2 := g2.size
 refine S_alloc (cs := [_]) zr33 rfl ?_
 intro b3 w3 fb3 g3 B3
 have lb3 := B3.lt
 replace hAl := hAl.grow g3
 replace hBl := hBl.grow g3
 replace G := G.grow g3
 replace B1 := B1.grow g3
 replace B2 := B2.grow g3
 have zg3 := g3.size
 refine S_stM (pre := []) (old := [_]) (post := []) (vs := [_]) sz33 rfl rfl rfl (by first | rfl | assumption) B3 rfl rfl ?_
 intro w4 m4 X4
 replace B3 := Blk.eq (ys := [_]) X4 rfl
 clear X4
 replace G := G.abv m4
 replace hAl := hAl0.grow G
 replace hBl := hBl0.grow G
 replace B1 := B1.md m4
 replace B2 := B2.md m4
 have zm4 := m4.size
 refine S_nl rfl rfl ?_
 refine th_n (hK2 _ _ ?_)
 clear hK2 K2
 refine wp_seq_k fun K3 hK3 => ?_
 refine wp_seq_k fun K4 hK4 => ?_
 refine Sb 31 rfl ?_  -- 2
 refine S_val (Y_loadS Try.underlying35 rfl sz35 rfl (B1.row (by rfl))) ?_  -- l1
 refine S_call rfl en34 (spec_HeapValid_c _ _ _ _ _ _ _ (by assumption) (by assumption) (by omega)) ?_  -- k1 spec.HeapValid
 rintro v5 w5 ⟨rfl, g5⟩
 replace hAl := hAl.grow g5
 replace hBl := hBl.grow g5
 replace G := G.grow g5
 replace B1 := B1.grow g5
 replace B2 := B2.grow g5
 replace B3 := B3.grow g5
 have zg5 := g5.size
 refine S_val (Y_not rfl) ?_
 refine S_nl rfl rfl ?_
 refine th_n (hK4 _ _ ?_)
 clear hK4 K4
 refine S_if rfl (fun hb1 => ?_) (fun hb1 => ?_)  -- c1
 · -- c1T
  first | with_reducible (replace hb1 := nb_nt hb1) | with_reducible (replace hb1 := nb_tt hb1) | with_reducible (replace hb1 := nb_bt hb1) | skip
  refine wp_seq_k fun K5 hK5 => ?_
  refine Sb 31 rfl ?_  -- 3
  refine S_val (Y_load Try.underlying33 rfl rfl (B3.at (by rfl))) ?_  -- l2
  refine S_val (Y_assign rfl) ?_
  refine S_nl rfl rfl ?_
  refine th_n (hK5 _ _ ?_)
  clear hK5 K5
  refine wp_ret ?_
  refine th_r ?_
  clear hK3 K3
  refine ret_r1 rfl rfl ?_  -- r1
  exact ⟨_, _, _, rfl, by rw [depthV_f hb1]; rfl, by rw [depthV_f hb1]; exact OI.nil _ _ _ _, G⟩
 · -- c1F
  first | with_reducible (replace hb1 := nb_nf hb1) | with_reducible (replace hb1 := nb_tf hb1) | with_reducible (replace hb1 := nb_bf hb1) | skip
  have va := valid_iff.1 hb1
  have hl := va.leads
  have h40 := va.le
  have hr4 := va.roots4
  refine wp_skip ?_
  refine th_n (hK3 _ _ ?_)
  clear hK3 K3
  refine wp_seq_k fun K6 hK6 => ?_
  refine Sb 31 rfl ?_  -- 4
  refine S_val (Y_field Try.underlying35 rfl fz35_0 (by decide) rfl) ?_
  refine S_val (Y_load Try.underlying32 rfl rfl (B1.at (by rfl))) ?_  -- l3
  refine S_val (Y_len Try.underlying32 rfl) ?_
  refine S_make (z := [.bool false]) Try.underlying43 zr4 sz4 by4 rfl rfl (by omega) (by omega) (by omega) ?_
  intro b6 w6 fb6 g6 B6
  rw [mB_zero] at B6
  have lb6 := B6.lt
  replace hAl := hAl.grow g6
  replace hBl := hBl.grow g6
  replace G := G.grow g6
  replace B1 := B1.grow g6
  replace B2 := B2.grow g6
  replace B3 := B3.grow g6
  have zg6 := g6.size
  have O3 : OW (fun i => i = b2 ∨ b6 < i) w6 3 1 (some ⟨b2, 0, none⟩) 0 0 (ints []) := OW.of_blk B2 rfl (by decide) (.inl rfl)
  refine S_val (Y_assign rfl) ?_
  refine S_nl rfl rfl ?_
  refine th_n (hK6 _ _ ?_)
  clear hK6 K6
  refine wp_seq_k fun K7 hK7 => ?_
  refine wp_seq_k fun K8 hK8 => ?_
  refine Sb 31 rfl ?_  -- 5
  refine S_val (Y_assign rfl) ?_
  refine S_nl rfl rfl ?_
  refine th_n (hK8 _ _ ?_)
  clear hK8 K8
  refine wp_block ?_
  go_loopw [5] (fun u5 wr => (∃ (k q cap : Nat) (A1 : Option Addr) (s : List Int), u5 = .int .i64 k ∧ k ≤ h.roots.length ∧ q = s.length ∧ s = (h.roots.take k).foldl (dw1 h.cells h.cells.length) [] ∧ Blk wr b6 4 (bools (mB h.cells.length s)).toArray ∧ Blk wr b3 33 [.slice A1 q cap].toArray ∧ OW (fun i => i = b2 ∨ b6 < i) wr 3 1 A1 q cap (ints s)) ∧ Mod (fun i => i = b6 ∨ i = b3 ∨ (i = b2 ∨ b6 < i)) w6 wr) (fun u5 wr => h.roots.length - (intOf u5).toNat)  -- L1
  case atStart =>
   refine ⟨?_, Mod.refl _ _⟩
   exact ⟨0, _, _, _, [], rfl, by omega, rfl, rfl, B6, B3, O3⟩
  case round =>
   obtain ⟨w7, rfl⟩ : ∃ x : World, x = wr := ⟨_, rfl⟩
   obtain ⟨hrel, g7⟩ := hrel
   clear B6
   clear B3
   clear O3
   replace G := G.abv g7
   replace hAl := hAl0.grow G
   replace hBl := hBl0.grow G
   replace B1 := B1.md g7
   have zg7 := g7.size
   obtain ⟨k, q2, cap2, A2, s2, rfl, hk, hq2, hs2, B6, B3, O3⟩ := hrel
   have hsb := dws_bnd hl h.cells.length (fun x hx ho => hl.1 x (List.mem_of_mem_take hx) ho) (Bnd.nil _) (xs := h.roots.take k)
   rw [← hs2] at hsb
   have GL7 := g7
   refine wp_seq_k fun K9 hK9 => ?_
   refine wp_seq_k fun K10 hK10 => ?_
   refine Sb 31 rfl ?_  -- 6
   refine S_val (Y_move rfl) ?_
   refine S_val (Y_field Try.underlying35 rfl fz35_1 (by decide) rfl) ?_
   refine S_val (Y_load Try.underlying33 rfl rfl (B1.at (by rfl))) ?_  -- l4
   refine S_val (Y_len Try.underlying33 rfl) ?_
   refine S_val (Y_lss rfl rfl) ?_
   refine S_nl rfl rfl ?_
   refine th_n (hK10 _ _ ?_)
   clear hK10 K10
   refine S_if rfl (fun hb2 => ?_) (fun hb2 => ?_)  -- c2
   · -- c2T
    replace hb2 := nb_tt hb2
    have hk1 : k < h.roots.length := by omega
    have hfs := foldl_succ (g := dw1 h.cells h.cells.length) (b := []) hk1
    rw [← hs2] at hfs
    refine wp_skip ?_
    refine th_n (hK9 _ _ ?_)
    clear hK9 K9
    refine wp_seq_k fun K11 hK11 => ?_
    refine wp_block ?_
    refine D_start 8 31 (fun w => Mod (fun i => i = b6 ∨ i = b3 ∨ (i = b2 ∨ b6 < i)) w) follows rfl rfl ?_  -- d1 r8
    intro w8 g8
    replace hAl := hAl.grow g8
    replace hBl := hBl.grow g8
    replace O3 := O3.grow g8
    replace G := G.grow g8
    replace GL7 := GL7.grow g8
    replace B1 := B1.grow g8
    replace B6 := B6.grow g8
    replace B3 := B3.grow g8
    have zg8 := g8.size
    have GS8 := Mod.refl (fun i => i = b6 ∨ i = b3 ∨ (i = b2 ∨ b6 < i)) w8
    obtain ⟨g4, o4, rfl, hp4, hc4⟩ := hBl.int hk1
    refine Dq (i := 0) rfl GS8 (fun _ hs => Y_loadS Try.underlying35 rfl sz35 rfl (by first | exact CellsAt.mod (B1.row (by rfl)) hs (by intro h; first | omega | (dsimp only at h; omega)))) ?_
    refine Dq (i := 1) rfl GS8 (fun _ _ => Y_field Try.underlying35 rfl fz35_1 (by decide) rfl) ?_
    refine Dq (i := 2) rfl GS8 (fun _ hs => Y_load Try.underlying33 rfl rfl (by first | exact hs.cell (B1.at (by rfl)) (by intro h; first | omega | (dsimp only at h; omega)))) ?_
    refine Dq (i := 3) rfl GS8 (fun _ _ => Y_move rfl) ?_
    refine Dq (i := 4) rfl GS8 (fun _ _ => Y_index Try.underlying33 sz3 rfl rfl (by first | assumption | omega)) ?_
    refine Dq (i := 5) rfl GS8 (fun _ hs => Y_load Try.underlying3 rfl rfl (by first | exact hs.cell (by assumption) (by intro h; first | omega | (dsimp only at h; omega)) | exact hs.cell (B1.at (by rfl)) (by intro h; first | omega | (dsimp only at h; omega)) | exact hs.cell (B6.at (by rfl)) (by intro h; first | omega | (dsimp only at h; omega)) | exact hs.cell (B3.at (by rfl)) (by intro h; first | omega | (dsimp only at h; omega)))) ?_
    refine Dq (i := 6) rfl GS8 (fun _ _ => Y_move rfl) ?_
    refine D_1 (i := 7) (by kernel_rfl) ?_
    refine E_call rfl rfl en78 (walk_ok h.cells.length (fun i => (i = b2 ∨ b6 < i) ∧ i < w8.heap.size) h _ _ _ _ _ w.heap.size b6 b3 _ _ _ _ _ (fun k hk => by omega) hAl hz B6 B3 O3.lt hq2 (fun ho => hl.1 _ (List.getElem_mem hk1) ho) hl (by omega) hsb.2 (by omega) ⟨by omega, by omega, by omega, by omega, by omega⟩) ?_  -- k2 spec.l12Walk
    rintro v9 w9 ⟨q3, cap3, A3, hq3, X9, Y9, Z9, m9⟩
    replace B6 := X9
    replace B3 := Y9
    replace O3 := Z9.weak (fun i hi => hi.elim (fun h => h.1) (fun h => .inr (by omega)))
    clear X9 Y9 Z9
    replace m9 := m9.weak (T := fun i => i = b6 ∨ i = b3 ∨ (i = b2 ∨ b6 < i)) (fun i hi _ => by rcases hi with h | h | h; exact .inl h; exact .inr (.inl h); exact .inr (.inr h.1))
    replace G := G.abv m9
    replace GL7 := GL7.trn m9
    replace GS8 := GS8.trn m9
    replace hAl := hAl0.grow G
    replace hBl := hBl0.grow G
    replace B1 := B1.md m9
    have zm9 := m9.size
    refine ⟨GS8, ?_⟩
    refine D_en (by kernel_rfl) rfl rfl ?_
    refine ib_n ?_
    refine th_n (hK11 _ _ ?_)
    clear hK11 K11
    refine Sb 31 rfl ?_  -- 7
    refine S_val (Y_move rfl) ?_
    refine S_val (Y_inc rfl rfl (by omega)) ?_
    refine S_val (Y_assign rfl) ?_
    refine S_nl rfl rfl ?_
    refine th_n ?_
    go_roundw  -- e1 of L1
    case rel =>
     refine ⟨?_, GL7⟩
     exact ⟨k + 1, _, _, _, _, rfl, by omega, hq3, hfs.symm, B6, B3, O3⟩
    case measure =>
     exact dec_nat (by omega)
   · -- c2F
    replace hb2 := nb_tf hb2
    refine wp_exit ?_
    refine th_x ?_
    try clear GL7
    refine th_x ?_
    refine ib_e ?_
    refine th_n (hK7 _ _ ?_)
    clear hK9 K9 hK7 K7
    refine wp_seq_k fun K12 hK12 => ?_
    refine Sb 31 rfl ?_  -- 9
    refine S_val (Y_load Try.underlying33 rfl rfl (B3.at (by rfl))) ?_  -- l8
    refine S_val (Y_assign rfl) ?_
    refine S_nl rfl rfl ?_
    refine th_n (hK12 _ _ ?_)
    clear hK12 K12
    refine wp_ret ?_
    refine ret_r1 rfl rfl ?_  -- r2
    rw [List.take_of_length_le (by omega)] at hs2
    subst hs2
    exact ⟨_, _, _, rfl, by rw [depthV_t hb1]; exact hq2, by rw [depthV_t hb1]; exact O3.oi.weak (fun i hi => by omega), G⟩
end
/-! WalkDs -/
section
open Go Go.RowKit
attribute [local irreducible] wpList wpAnyH Code.wp dOp
set_option maxHeartbeats 400000 in
set_option maxRecDepth 20000 in
theorem spec_l20Suspect_c (bR p : Nat) (w : World) (RD : Rd w bR p) (hp : p ≤ 700000) :
    Calls Try.prog 89 #[.pointer (some ⟨bR, 0, none⟩)] w (Ret fun v w' => ∃ (hD : LH) (A1 B1 : Option Addr) (n1 c1 n2 c2 : Nat) (x : Int) (p2 : Nat), v = .tuple #[.agg #[.slice A1 n1 c1, .slice B1 n2 c2], .int .i64 x] ∧ n1 = hD.cells.length ∧ n2 = hD.roots.length ∧ hsize hD ≤ 300 ∧ (-1 ≤ x ∧ x ≤ 301) ∧ RC (fun i => w.heap.size ≤ i) w' A1 hD.cells ∧ R1 (fun i => w.heap.size ≤ i) w' B1 (ints hD.roots) ∧ Rd w' bR p2 ∧ Mod (fun i => i = bR) w w') := by
 have lbR := RD.lt
 refine enter Try.func89 rfl Try.ntmps89 (L := [_,_,_,_,_,_,_,_,_,_,_,_,_,_,_,_,_,_]) rfl ?_
 have G := Mod.refl (fun i => i = bR) w
 refine wp_seq_k fun K1 hK1 => ?_
 refine Sb 18 rfl ?_  -- 0
 refine S_alloc (cs := [_, _]) zr35 rfl ?_
 intro b1 w1 fb1 g1 B1
 have lb1 := B1.lt
 replace RD := RD.grow g1
 replace G := G.grow g1
 have zg1 := g1.size
 refine S_val (Y_assign rfl) ?_
 refine S_nl rfl rfl ?_
 refine th_n (hK1 _ _ ?_)
 clear hK1 K1
 refine wp_seq_k fun K2 hK2 => ?_
 refine Sb 18 rfl ?_  -- 1
 refine S_val (Y_move rfl) ?_
 refine S_call rfl en64 (spec_l20Heap_c _ _ _ _ RD (by omega) (by omega)) ?_  -- k1 spec.l20Heap
 rintro v2 w2 ⟨hD2, A2, B2, n12, c12, n22, c22, p2, rfl, hn12, hn22, hz2, hp2, RC2, RR2, RD2, m2⟩
 subst hn12
 subst hn22
 obtain ⟨h, rfl⟩ : ∃ x, x = hD2 := ⟨_, rfl⟩
 obtain ⟨AD, rfl⟩ : ∃ x, x = A2 := ⟨_, rfl⟩
 obtain ⟨BD, rfl⟩ : ∃ x, x = B2 := ⟨_, rfl⟩
 obtain ⟨cD, rfl⟩ : ∃ x, x = c12 := ⟨_, rfl⟩
 obtain ⟨dD, rfl⟩ : ∃ x, x = c22 := ⟨_, rfl⟩
 have hzD := hz2
 have hzcD := hsize_cells h
 obtain ⟨pD, rfl⟩ : ∃ x, x = p2 := ⟨_, rfl⟩
 have hpD := hp2
 obtain ⟨loD, hloD⟩ : ∃ x, x = w1.heap.size := ⟨_, rfl⟩
 obtain ⟨hiD, hhiD⟩ : ∃ x, x = w2.heap.size := ⟨_, rfl⟩
 replace RD := RD2
 clear RD2
 replace G := Mod.trans' G m2 (fun _ h _ => h) (fun i h hl => by first | exact h | omega | (dsimp only at h ⊢; omega))
 replace B1 := B1.md m2
 have zm2 := m2.size
 have hDA : RC (fun k => loD ≤ k ∧ k < hiD) w2 AD h.cells := RC.both RC2 RC2.below hloD hhiD
 have hDB : R1 (fun k => loD ≤ k ∧ k < hiD) w2 BD (ints h.roots) := R1.both RR2 RR2.below hloD hhiD
 refine S_alloc (cs := [_, _]) zr35 rfl ?_
 intro b3 w3 fb3 g3 B3
 have lb3 := B3.lt
 replace RD := RD.grow g3
 replace hDA := hDA.grow g3
 replace hDB := hDB.grow g3
 replace G := G.grow g3
 replace B1 := B1.grow g3
 have zg3 := g3.size
 refine S_stM (pre := []) (old := [_, _]) (post := []) (vs := [_, _]) sz35 rfl rfl rfl (by first | rfl | assumption) B3 rfl rfl ?_
 intro w4 m4 X4
 replace B3 := Blk.eq (ys := [_, _]) X4 rfl
 clear X4
 replace G := Mod.trans' G m4 (fun _ h _ => h) (fun i h hl => by first | exact h | omega | (dsimp only at h ⊢; omega))
 replace RD := RD.md m4
 replace hDA := hDA.md m4
 replace hDB := hDB.md m4
 replace B1 := B1.md m4
 have zm4 := m4.size
 refine S_nl rfl rfl ?_
 refine th_n (hK2 _ _ ?_)
 clear hK2 K2
 refine wp_seq_k fun K3 hK3 => ?_
 refine D_start 13 18 (fun w => Mod (fun i => i = bR ∨ i = b1) w) follows rfl rfl ?_  -- d1 r2
 intro w5 g5
 replace RD := RD.grow g5
 replace hDA := hDA.grow g5
 replace hDB := hDB.grow g5
 replace G := G.grow g5
 replace B1 := B1.grow g5
 replace B3 := B3.grow g5
 have zg5 := g5.size
 have GS5 := Mod.refl (fun i => i = bR ∨ i = b1) w5
 refine Dq (i := 0) rfl GS5 (fun _ hs => Y_loadS Try.underlying35 rfl sz35 rfl (by first | exact CellsAt.mod (B3.row (by rfl)) hs (by intro h; first | omega | (dsimp only at h; omega)))) ?_
 refine Dq (i := 1) rfl GS5 (fun _ _ => Y_move rfl) ?_
 refine Dq (i := 2) rfl GS5 (fun _ _ => Y_field Try.underlying35 rfl fz35_0 (by decide) rfl) ?_
 refine Dq (i := 3) rfl GS5 (fun _ hs => Y_load Try.underlying32 rfl rfl (by first | exact hs.cell (B3.at (by rfl)) (by intro h; first | omega | (dsimp only at h; omega)))) ?_
 refine Dq (i := 4) rfl GS5 (fun _ _ => Y_len Try.underlying32 rfl) ?_
 refine Dq (i := 5) rfl GS5 (fun _ _ => Y_inc rfl rfl (by omega)) ?_
 refine Dq (i := 7) rfl GS5 (fun _ _ => Y_move rfl) ?_
 refine D_1 (i := 6) (by kernel_rfl) ?_
 refine E_call rfl rfl en92 (spec_l20Rd_pick_c _ _ _ _ RD (by omega) (by omega)) ?_  -- k2 (*spec.l20Rd).pick
 rintro v6 w6 ⟨k6, rfl, hk6, RD6, m6⟩
 obtain ⟨k1, rfl⟩ : ∃ x, x = k6 := ⟨_, rfl⟩
 have hk1 := hk6 (by omega)
 replace RD := RD6
 clear RD6
 replace G := Mod.trans' G m6 (fun _ h _ => h) (fun i h hl => by first | exact h | omega | (dsimp only at h ⊢; omega))
 replace GS5 := GS5.trn m6
 replace hDA := hDA.md m6
 replace hDB := hDB.md m6
 replace B1 := B1.md m6
 replace B3 := B3.md m6
 have zm6 := m6.size
 refine ⟨GS5, ?_⟩
 refine D_1 (i := 8) (by kernel_rfl) ?_
 refine E_call rfl rfl en92 (spec_l20Rd_pick_c _ _ _ _ RD (by omega) (by omega)) ?_  -- k3 (*spec.l20Rd).pick
 rintro v7 w7 ⟨k7, rfl, hk7, RD7, m7⟩
 obtain ⟨k2, rfl⟩ : ∃ x, x = k7 := ⟨_, rfl⟩
 have hk2 := hk7 (by decide)
 replace RD := RD7
 clear RD7
 replace G := Mod.trans' G m7 (fun _ h _ => h) (fun i h hl => by first | exact h | omega | (dsimp only at h ⊢; omega))
 replace GS5 := GS5.trn m7
 replace hDA := hDA.md m7
 replace hDB := hDB.md m7
 replace B1 := B1.md m7
 replace B3 := B3.md m7
 have zm7 := m7.size
 refine ⟨GS5, ?_⟩
 refine Dq (i := 9) rfl GS5 (fun _ _ => Y_quo rfl rfl (by omega) (by omega) (by decide) rfl) ?_
 refine Dq (i := 10) rfl GS5 (fun _ _ => Y_sub rfl rfl rfl (by omega) (by omega)) ?_
 refine D_1 (i := 11) (by kernel_rfl) ?_
 refine E_stM (pre := []) (old := [_, _]) (post := []) (vs := [_, _]) (i := 11) rfl sz35 rfl rfl rfl (by first | rfl | assumption) B1 rfl rfl ?_
 intro w8 m8 X8
 replace B1 := Blk.eq (ys := [_, _]) X8 rfl
 clear X8
 replace G := Mod.trans' G m8 (fun _ h _ => h) (fun i h hl => by first | exact h | omega | (dsimp only at h ⊢; omega))
 replace GS5 := GS5.trn m8
 replace hDA := hDA.md m8
 replace hDB := hDB.md m8
 replace RD := RD.md m8
 replace B3 := B3.md m8
 have zm8 := m8.size
 refine ⟨GS5, ?_⟩
 refine Dq (i := 12) rfl GS5 (fun _ _ => Y_assign rfl) ?_
 refine D_en (by kernel_rfl) rfl rfl ?_
 refine th_n (hK3 _ _ ?_)
 clear hK3 K3
 refine wp_ret ?_
 refine ret_rct (cs := [_, _]) Try.underlying35 rfl sz35 rfl rfl rfl (B1.row (by rfl)) ?_  -- r1
 exact ⟨h, _, _, _, _, _, _, _, _, rfl, rfl, rfl, hzD, ⟨by omega, by omega⟩, hDA.weak (fun i hi => by first | omega | (dsimp only at hi ⊢; omega)), hDB.weak (fun i hi => by first | omega | (dsimp only at hi ⊢; omega)), RD, G⟩
set_option maxHeartbeats 400000 in
set_option maxRecDepth 20000 in
theorem spec_DrawCellsFrom_c (Pr : Nat → Prop) (A : Option Addr) (xs : List Int) (c : Nat) (w : World) (hA : R1 Pr w A (u8s xs)) (hx : xs.length ≤ 1048576) (hc : xs.length ≤ c) (hr : ∀ x ∈ xs, 0 ≤ x ∧ x ≤ 255) :
    Calls Try.prog 52 #[.slice A xs.length c] w (Ret fun v w' => ∃ (hD : LH) (A1 B1 : Option Addr) (n1 c1 n2 c2 : Nat) (x : Int), v = .tuple #[.agg #[.slice A1 n1 c1, .slice B1 n2 c2], .int .i64 x] ∧ n1 = hD.cells.length ∧ n2 = hD.roots.length ∧ hsize hD ≤ 300 ∧ (-1 ≤ x ∧ x ≤ 301) ∧ RC (fun i => w.heap.size ≤ i) w' A1 hD.cells ∧ R1 (fun i => w.heap.size ≤ i) w' B1 (ints hD.roots) ∧ Grow w w') := by
 refine enter Try.func52 rfl Try.ntmps52 (L := [_,_,_,_,_,_,_,_,_]) rfl ?_
 have G := Mod.refl No w
 have hA0 := hA
 refine wp_seq_k fun K1 hK1 => ?_
 refine Sb 9 rfl ?_  -- 0
 refine S_alloc (cs := [_, _]) zr35 rfl ?_
 intro b1 w1 fb1 g1 B1
 have lb1 := B1.lt
 replace hA := hA.grow g1
 replace G := G.grow g1
 have zg1 := g1.size
 refine S_val (Y_assign rfl) ?_
 refine S_nl rfl rfl ?_
 refine th_n (hK1 _ _ ?_)
 clear hK1 K1
 refine wp_seq_k fun K2 hK2 => ?_
 refine Sb 9 rfl ?_  -- 1
 refine S_val (Y_move rfl) ?_
 refine S_call rfl en59 (spec_l20Open_c _ _ _ _ _ (by assumption) (by omega) (by omega) (by assumption)) ?_  -- k1 spec.l20Open
 rintro v2 w2 ⟨b2, rfl, fb2, RD2, g2⟩
 replace hA := hA.grow g2
 replace G := G.grow g2
 replace B1 := B1.grow g2
 have zg2 := g2.size
 obtain ⟨bR, rfl⟩ : ∃ x, x = b2 := ⟨_, rfl⟩
 have RD := RD2
 have hbR := fb2
 refine S_call rfl en89 (spec_l20Suspect_c _ _ _ RD (by omega)) ?_  -- k2 spec.l20Suspect
 rintro v3 w3 ⟨hD3, A3, B3, n13, c13, n23, c23, x3, p3, rfl, hn13, hn23, hz3, hx3, RC3, RR3, RD3, m3⟩
 subst hn13
 subst hn23
 obtain ⟨h, rfl⟩ : ∃ x, x = hD3 := ⟨_, rfl⟩
 obtain ⟨AD, rfl⟩ : ∃ x, x = A3 := ⟨_, rfl⟩
 obtain ⟨BD, rfl⟩ : ∃ x, x = B3 := ⟨_, rfl⟩
 obtain ⟨cD, rfl⟩ : ∃ x, x = c13 := ⟨_, rfl⟩
 obtain ⟨dD, rfl⟩ : ∃ x, x = c23 := ⟨_, rfl⟩
 have hzD := hz3
 have hzcD := hsize_cells h
 obtain ⟨xD, rfl⟩ : ∃ x, x = x3 := ⟨_, rfl⟩
 have hxD := hx3
 obtain ⟨loD, hloD⟩ : ∃ x, x = w2.heap.size := ⟨_, rfl⟩
 obtain ⟨hiD, hhiD⟩ : ∃ x, x = w3.heap.size := ⟨_, rfl⟩
 replace RD := RD3
 clear RD3
 replace G := G.abv m3
 replace hA := hA0.grow G
 replace B1 := B1.md m3
 have zm3 := m3.size
 have hDA : RC (fun k => loD ≤ k ∧ k < hiD) w3 AD h.cells := RC.both RC3 RC3.below hloD hhiD
 have hDB : R1 (fun k => loD ≤ k ∧ k < hiD) w3 BD (ints h.roots) := R1.both RR3 RR3.below hloD hhiD
 refine S_val (Y_extract rfl rfl) ?_
 refine S_val (Y_extract rfl rfl) ?_
 refine S_stM (pre := []) (old := [_, _]) (post := []) (vs := [_, _]) sz35 rfl rfl rfl (by first | rfl | assumption) B1 rfl rfl ?_
 intro w4 m4 X4
 replace B1 := Blk.eq (ys := [_, _]) X4 rfl
 clear X4
 replace G := G.abv m4
 replace hA := hA0.grow G
 replace hDA := hDA.md m4
 replace hDB := hDB.md m4
 have zm4 := m4.size
 refine S_val (Y_assign rfl) ?_
 refine S_nl rfl rfl ?_
 refine th_n (hK2 _ _ ?_)
 clear hK2 K2
 refine wp_ret ?_
 refine ret_rct (cs := [_, _]) Try.underlying35 rfl sz35 rfl rfl rfl (B1.row (by rfl)) ?_  -- r1
 exact ⟨h, _, _, _, _, _, _, _, rfl, rfl, rfl, hzD, hxD, hDA.weak (fun i hi => by first | omega | (dsimp only at hi ⊢; omega)), hDB.weak (fun i hi => by first | omega | (dsimp only at hi ⊢; omega)), G⟩
end
/-! Fn -/
section
open Go Go.RowKit
theorem from_step {h : LH} (v : Valid h) {n i m : Nat} (hn : n < h.cells.length) (hi : inB (fromM h n) i = true) (hm : (m : Int) ∈ refsOf h.cells i) : inB (fromM h n) m = true := (from_mem v hn).2 (.step ((from_mem v hn).1 hi) hm (nn_nat m))
theorem from_self {h : LH} (v : Valid h) {n : Nat} (hn : n < h.cells.length) : inB (fromM h n) n = true := (from_mem v hn).2 (.root (by simp) (nn_nat n))
theorem from_reach {h : LH} (v : Valid h) {n i : Nat} (hn : n < h.cells.length) (hi : inB (fromM h n) i = true) (hr : rB h n = true) : rB h i = true := rB_trans v hr ((from_mem v hn).1 hi)
theorem fromM_at {h : LH} {n k : Nat} (hk : k < (fromM h n).length) : (fromM h n)[k] = inB (fromM h n) k := (inB_at hk).symm
/-- A used cell of a valid heap. -/
theorem fromV_cell {h : LH} {x : Int} (h0 : ¬ (fromV h x).length = 0) : ∃ n : Nat, x = (n : Int) ∧ n < h.cells.length ∧ Valid h ∧ usedAt h.cells n = true ∧ fromV h x = fromM h n := by
  have hu := fromV_pos (h := h) (x := x) (by omega)
  obtain ⟨n, rfl, hn, hv, hun⟩ := usedR_lt hu
  exact ⟨n, rfl, hn, valid_iff.1 hv, hun, fromV_n hu⟩
end
/-! Open -/
section
open Go Go.ChangeShapes Go.WideShapes Go.ChangeAt Go.RowKit Go.Deep Go.Joins
section
variable {H : Type} {enc : TypeId × Value → H} {P : Program} {w : World} {base : Nat} {spare : Nat → Bool} {held : Bool}
theorem plain_of_cell {w : World} {a : Addr} {v : Value} (h : w.cell? a = some v) : ∃ g o, a = ⟨g, o, none⟩ := by
  obtain ⟨g, o, s⟩ := a
  have hs := World.cell?_spot h
  simp only at hs
  subst hs
  exact ⟨g, o, rfl⟩
theorem trod_top {t e : TypeId} {r : Reach} {b0 : Nat} {v : Value} {d : DataW H} {p : List MemPlace} (hu : P.underlying t = some (.slice e)) (hval : Value.okWide P w r b0 t v) (h : DataW.Trod enc P w base spare held t v d p) :
    ∃ fuel, DataW.trod enc P w base spare held fuel t [v] = some (d, p) := by
  obtain ⟨a, len, cap, rfl⟩ := okWide_slice hu hval
  obtain ⟨fuel, hf⟩ := h
  exact ⟨fuel, hf⟩
theorem open_ru {t e : TypeId} {fuel : Nat} {v : Value} {x : DataW H × List MemPlace} (ht : P.underlying t = some (.slice e)) (he : P.underlying e = some (.int .u8)) (hc : P.cellsOf e = 1)
    (h : DataW.trod enc P w base spare held fuel t [v] = some x) : ∃ (A : Option Addr) (xs : List Int) (c : Nat), v = .slice A xs.length c ∧ R1 (fun _ => True) w A (u8s xs) ∧ xs.length ≤ 9223372036854775807 ∧ xs.length ≤ c ∧ ∀ y ∈ xs, 0 ≤ y ∧ y ≤ 255 := by
  rcases open_ints ht he hc h with ⟨hcs, _⟩ | ⟨a, len, cap, zs, hcs, _, hl, hm, hz, _, hcell, hwz⟩
  · simp only [List.cons.injEq, and_true] at hcs
    subst hcs
    exact ⟨none, [], 0, rfl, R1.nil _ _ _, by simp, by simp, by simp⟩
  · simp only [List.cons.injEq, and_true] at hcs
    subst hcs
    have hlz : len ≤ zs.length := by
      rw [hz]
      split
      · exact hl
      · exact Nat.le_refl _
    have hlen : (zs.take len).length = len := by rw [List.length_take]; omega
    refine ⟨some a, zs.take len, cap, by rw [hlen], fun k u hu => ?_, by rw [hlen]; unfold maxLen at hm; omega, by rw [hlen]; exact hl, fun y hy => ?_⟩
    · have hk : k < len := by
        have := (List.getElem?_eq_some_iff.1 hu).1
        rw [u8s, List.length_map, hlen] at this
        exact this
      obtain ⟨g, o, rfl⟩ : ∃ g o, a = ⟨g, o, none⟩ := by
        have h0 := hcell 0 (by omega)
        rw [show a.add 0 = a by simp [Addr.add]] at h0
        exact plain_of_cell h0
      refine ⟨g, o, rfl, trivial, ?_⟩
      have hck := hcell k (by omega)
      rw [Addr.add_lit] at hck
      rw [Nat.mul_one, hck]
      have hu' : (u8s (zs.take len))[k]? = some (.int .u8 (zs.getD k 0)) := by
        unfold u8s
        rw [List.getElem?_map, List.getElem?_take, if_pos hk, List.getElem?_eq_getElem (show k < zs.length by omega)]
        simp [List.getD, List.getElem?_eq_getElem (show k < zs.length by omega)]
      rw [hu'] at hu
      exact hu
    · have hy' := List.mem_of_mem_take hy
      have := hwz y hy'
      simp [Lit.wf, IntKind.min, IntKind.max, IntKind.bits, IntKind.signed] at this
      omega
end
end
end Go.Proofs.Ytikgflhepclfgaa
