/-
  Walks: heaps in which cells are freed.
  Conditions: those that each theorem states.
-/
import Derived.Test.YtjmfdmndchoplaaTy
import Derived.Test.YtjmfdmndchoplaaWalkCp
import Derived.Test.YtjmfdmndchoplaaWalkL
import Derived.Test.YtjmfdmndchoplaaWalkDc
set_option linter.unusedVariables false
set_option linter.unusedSimpArgs false
namespace Go.Proofs.Ytjmfdmndchoplaa
open Go Go.RowKit
attribute [local irreducible] wpList wpAnyH Code.wp dOp

set_option maxHeartbeats 400000 in
set_option maxRecDepth 20000 in
theorem impl_freeCells_c (Pr : Nat → Prop) (bh : Nat) (A : Option Addr) (V : Value) (cs : List LC) (rs : List (Option Addr × Nat)) (c m : Nat) (w : World) (BH : Blk w bh 25 [.slice A cs.length c, V].toArray) (O : OC Pr w 70 3 A cs rs) (hm : m < 2 ^ 64) (hn : cs.length ≤ 64) (hbp : ¬ Pr bh) :
    Calls Try.prog 70 #[.pointer (some ⟨bh, 0, none⟩), .int .u64 (m : Int)] w (Ret fun v w' => ∃ rs1, v = .int .i64 ((cntP (fun i => m.testBit i && usedAt cs i) cs.length : Nat) : Int) ∧ OC Pr w' 70 3 A (dropC cs (fun i => m.testBit i && usedAt cs i)) rs1 ∧ SubC (dropC cs (fun i => m.testBit i && usedAt cs i)) rs1 cs rs ∧ Mod Pr w w') := by
 have hne : (70 : TypeId) ≠ 3 := by decide
 refine enter Try.func70 rfl Try.ntmps70 (L := [_,_,_,_,_,_,_,_,_,_,_,_,_,_,_,_,_,_,_,_,_,_,_,_,_,_,_,_,_,_,_,_,_,_,_,_,_,_,_]) rfl ?_
 have G := Mod.refl Pr w
 refine wp_seq_k fun K1 hK1 => ?_
 refine Sb 39 rfl ?_  -- 0
 refine S_val (Y_assign rfl) ?_
 refine S_nl rfl rfl ?_
 refine th_n (hK1 _ _ ?_)
 clear hK1 K1
 refine wp_seq_k fun K2 hK2 => ?_
 refine Sb 39 rfl ?_  -- 1
 refine S_val (Y_assign rfl) ?_
 refine S_nl rfl rfl ?_
 refine th_n (hK2 _ _ ?_)
 clear hK2 K2
 refine wp_seq_k fun K3 hK3 => ?_
 refine wp_seq_k fun K4 hK4 => ?_
 refine Sb 39 rfl ?_  -- 2
 refine S_val (Y_move rfl) ?_
 refine S_val (Y_nil rfl) ?_
 refine S_val (Y_field Try.underlying25 rfl fz25_0 (by decide) rfl) ?_
 refine S_val (Y_load Try.underlying23 rfl rfl (BH.at (by rfl))) ?_  -- l1
 refine S_val (Y_len Try.underlying23 rfl) ?_
 refine S_val (Y_move rfl) ?_
 refine S_nl rfl rfl ?_
 refine th_n (hK4 _ _ ?_)
 clear hK4 K4
 refine wp_block ?_
 go_loopw [5, 12] (fun u5 u12 wr => (∃ (k : Nat) (rs1 : List (Option Addr × Nat)), u12 = .int .i64 k ∧ u5 = .int .i64 ((cntP (fun i => m.testBit i && usedAt cs i) k : Nat) : Int) ∧ k ≤ cs.length ∧ OC Pr wr 70 3 A (dropK cs (fun i => m.testBit i && usedAt cs i) k) rs1 ∧ SubC (dropK cs (fun i => m.testBit i && usedAt cs i) k) rs1 cs rs) ∧ Mod Pr w wr) (fun u5 u12 wr => cs.length - (intOf u12).toNat)  -- L1
 case atStart =>
  refine ⟨?_, Mod.refl _ _⟩
  exact ⟨0, rs, rfl, rfl, by omega, O.cast (dropK_zero _ _).symm, (SubC.refl _ _).cast (dropK_zero _ _).symm⟩
 case round =>
  obtain ⟨w1, rfl⟩ : ∃ x : World, x = wr := ⟨_, rfl⟩
  obtain ⟨hrel, g1⟩ := hrel
  clear O
  replace G := Mod.trans' G g1 (fun _ h _ => h) (fun i h _ => by first | exact h | (subst h; exact hpq))
  replace BH := BH.mod g1 (by intro h; first | omega | (dsimp only at h; omega) | exact hbp h | exact hbp (by rw [h]; exact hpq))
  have zg1 := g1.size
  obtain ⟨k, rs1, rfl, rfl, hk, O, hsub⟩ := hrel
  have hcl := cntP_le (fun i => m.testBit i && usedAt cs i) k
  have GL1 := g1
  refine wp_seq_k fun K5 hK5 => ?_
  refine Sb 39 rfl ?_  -- 3
  refine S_val (Y_lss rfl rfl) ?_
  refine S_nl rfl rfl ?_
  refine th_n (hK5 _ _ ?_)
  clear hK5 K5
  refine wp_seq_k fun K6 hK6 => ?_
  refine S_if rfl (fun hb1 => ?_) (fun hb1 => ?_)  -- c1
  · -- c1T
   replace hb1 := nb_tt hb1
   have hk1 : k < cs.length := by omega
   obtain ⟨gq, post, rfl, hpq, Bq⟩ := O.blk (fun e => by have h9 := dropK_len cs (fun i => m.testBit i && usedAt cs i) k; rw [e] at h9; simp at h9; omega)
   have OR := O.rows
   have hlr := OR.len
   rw [dropK_len] at hlr
   have hcj := dropK_get (p := (fun i => m.testBit i && usedAt cs i)) hk1
   obtain ⟨r, hrr⟩ : ∃ r, rs1[k]? = some r := ⟨_, List.getElem?_eq_getElem (by omega)⟩
   have hpl := flat_pre (k := k) OR.len (by rw [dropK_len]; omega)
   rw [flat_split OR.len hcj hrr] at Bq
   have hpl2 : (flatC ((dropK cs (fun i => m.testBit i && usedAt cs i) k).take k) (rs1.take k)).length = 0 + k * 3 := by rw [hpl]; omega
   have lbq := Bq.lt
   have cc2 := CellsAt.of_blk Bq hpl2
   have hbg : bh ≠ gq := fun e => (by subst e; exact BH.ne Bq (by decide) rfl)
   refine wp_skip ?_
   refine th_n (hK6 _ _ ?_)
   clear hK6 K6
   refine wp_seq_k fun K7 hK7 => ?_
   refine wp_block ?_
   refine wp_seq_k fun K8 hK8 => ?_
   refine Sb 39 rfl ?_  -- 4
   refine S_val (Y_move rfl) ?_
   refine S_val (Y_assign rfl) ?_
   refine S_nl rfl rfl ?_
   refine th_n (hK8 _ _ ?_)
   clear hK8 K8
   refine wp_seq_k fun K9 hK9 => ?_
   refine Sb 39 rfl ?_  -- 5
   refine S_val (Y_move rfl) ?_
   refine S_val (Y_move rfl) ?_
   refine S_call rfl en61 (impl_cellSet_has_c _ _ _ (by assumption)) ?_  -- k1 (impl.cellSet).has
   rintro v w' ⟨rfl, rfl⟩
   refine S_val (Y_move rfl) ?_
   refine S_g 18 rfl (fun hb2 => ?_) (fun hb2 => ?_)  -- g1
   · -- g1T
    first | with_reducible (replace hb2 := nb_nt hb2) | with_reducible (replace hb2 := nb_tt hb2) | with_reducible (replace hb2 := nb_bt hb2) | skip
    refine S_on rfl rfl ?_
    refine S_val (Y_move rfl) ?_
    refine S_on rfl rfl ?_
    refine S_val (Y_nil rfl) ?_
    refine S_on rfl rfl ?_
    refine S_val (Y_field Try.underlying25 rfl fz25_0 (by decide) rfl) ?_
    refine S_on rfl rfl ?_
    refine S_val (Y_load Try.underlying23 rfl rfl (BH.at (by rfl))) ?_  -- l2
    refine S_on rfl rfl ?_
    refine S_val (Y_move rfl) ?_
    refine S_on rfl rfl ?_
    refine S_val (Y_index Try.underlying23 sz70 rfl rfl (by first | assumption | omega)) ?_
    refine S_on rfl rfl ?_
    refine S_val (Y_field Try.underlying70 rfl fz70_0 (by decide) rfl) ?_
    refine S_on rfl rfl ?_
    refine S_val (Y_load Try.underlying4 rfl rfl (by first | assumption | exact cc2.at (by rfl) | exact BH.at (by rfl) | exact Bq.at (by rfl))) ?_  -- l3
    refine S_val (Y_pickT rfl rfl) ?_
    refine S_nl rfl rfl ?_
    refine th_n (hK9 _ _ ?_)
    clear hK9 K9
    refine S_if rfl (fun hb3 => ?_) (fun hb3 => ?_)  -- c2
    · -- c2T
     first | with_reducible (replace hb3 := nb_nt hb3) | with_reducible (replace hb3 := nb_tt hb3) | with_reducible (replace hb3 := nb_bt hb3) | skip
     have hpk : (fun i => m.testBit i && usedAt cs i) k = true := by show (m.testBit k && usedAt cs k) = true; rw [← hasB_nat, hb2, usedAt_at hk1, hb3]; rfl
     refine wp_seq_k fun K10 hK10 => ?_
     refine Sb 39 rfl ?_  -- 6
     refine S_val (Y_move rfl) ?_
     refine S_val (Y_nil rfl) ?_
     refine S_val (Y_field Try.underlying25 rfl fz25_0 (by decide) rfl) ?_
     refine S_val (Y_load Try.underlying23 rfl rfl (BH.at (by rfl))) ?_  -- l4
     refine S_val (Y_move rfl) ?_
     refine S_val (Y_build (cs := [_, _, _]) zr70 pc70 rfl rfl) ?_
     refine S_val (Y_index Try.underlying23 sz70 rfl rfl (by first | assumption | omega)) ?_
     refine S_stM (pre := flatC ((dropK cs (fun i => m.testBit i && usedAt cs i) k).take k) (rs1.take k)) (old := [_, _, _]) (post := flatC ((dropK cs (fun i => m.testBit i && usedAt cs i) k).drop (k + 1)) (rs1.drop (k + 1)) ++ post) (vs := [_, _, _]) sz70 rfl rfl rfl rfl Bq (by rw [hpl]; show k * 3 = 0 + k * 3; omega) rfl ?_
     intro w3 m3 X3
     replace OR := (OR.modT Bq hne m3).free k (c := emptyC) rfl (none, 0)
     replace Bq := X3
     clear X3 cc2
     replace G := Mod.trans' G m3 (fun _ h _ => h) (fun i h _ => by first | exact h | (subst h; exact hpq))
     replace GL1 := Mod.trans' GL1 m3 (fun _ h _ => h) (fun i h _ => by first | exact h | omega | (dsimp only at h ⊢; omega) | (subst h; rfl) | (subst h; exact ⟨by omega, rfl⟩) | (subst h; exact hpq))
     replace BH := BH.mod m3 (by intro h; first | omega | (dsimp only at h; omega) | exact hbp h | exact hbp (by rw [h]; exact hpq))
     have zm3 := m3.size
     refine S_nl rfl rfl ?_
     refine th_n (hK10 _ _ ?_)
     clear hK10 K10
     refine Sb 39 rfl ?_  -- 7
     refine S_val (Y_move rfl) ?_
     refine S_val (Y_inc rfl rfl (by omega)) ?_
     refine S_val (Y_assign rfl) ?_
     refine S_nl rfl rfl ?_
     refine ib_n ?_
     refine th_n (hK7 _ _ ?_)
     clear hK7 K7
     refine Sb 39 rfl ?_  -- 8
     refine S_val (Y_inc rfl rfl (by omega)) ?_
     refine S_val (Y_move rfl) ?_
     refine S_nl rfl rfl ?_
     refine th_n ?_
     go_roundw  -- e1 of L1
     case rel =>
      refine ⟨?_, GL1⟩
      first | exact ⟨k + 1, rs1, rfl, by rw [cntP_no hpk], by omega, O.cast (dropK_no hpk).symm, hsub.cast (dropK_no hpk).symm⟩ | exact ⟨k + 1, _, rfl, by rw [cntP_yes hpk], by omega, ⟨by rw [← dropK_yes hk1 hpk]; exact OR, fun _ => ⟨gq, post, rfl, hpq, Blk.eq Bq (by rw [← dropK_yes hk1 hpk]; exact flat_put (cs := dropK cs (fun i => m.testBit i && usedAt cs i) k) (rs := rs1) (c := emptyC) (r := (none, 0)) (by rw [dropK_len]; exact hlr) (by rw [dropK_len]; exact hk1))⟩⟩, (hsub.free k emptyC rfl (none, 0)).cast (dropK_yes hk1 hpk)⟩
     case measure =>
      exact dec_nat (by omega)
    · -- c2F
     first | with_reducible (replace hb3 := nb_nf hb3) | with_reducible (replace hb3 := nb_tf hb3) | with_reducible (replace hb3 := nb_bf hb3) | skip
     have hpk : (fun i => m.testBit i && usedAt cs i) k = false := by show (m.testBit k && usedAt cs k) = false; rw [usedAt_at hk1, hb3, Bool.and_false]
     refine wp_skip ?_
     refine ib_n ?_
     refine th_n (hK7 _ _ ?_)
     clear hK7 K7
     refine Sb 39 rfl ?_  -- 8
     refine S_val (Y_inc rfl rfl (by omega)) ?_
     refine S_val (Y_move rfl) ?_
     refine S_nl rfl rfl ?_
     refine th_n ?_
     go_roundw  -- e2 of L1
     case rel =>
      refine ⟨?_, GL1⟩
      first | exact ⟨k + 1, rs1, rfl, by rw [cntP_no hpk], by omega, O.cast (dropK_no hpk).symm, hsub.cast (dropK_no hpk).symm⟩ | exact ⟨k + 1, _, rfl, by rw [cntP_yes hpk], by omega, ⟨by rw [← dropK_yes hk1 hpk]; exact OR, fun _ => ⟨gq, post, rfl, hpq, Blk.eq Bq (by rw [← dropK_yes hk1 hpk]; exact flat_put (cs := dropK cs (fun i => m.testBit i && usedAt cs i) k) (rs := rs1) (c := emptyC) (r := (none, 0)) (by rw [dropK_len]; exact hlr) (by rw [dropK_len]; exact hk1))⟩⟩, (hsub.free k emptyC rfl (none, 0)).cast (dropK_yes hk1 hpk)⟩
     case measure =>
      exact dec_nat (by omega)
   · -- g1F
    first | with_reducible (replace hb2 := nb_nf hb2) | with_reducible (replace hb2 := nb_tf hb2) | with_reducible (replace hb2 := nb_bf hb2) | skip
    have hpk : (fun i => m.testBit i && usedAt cs i) k = false := by show (m.testBit k && usedAt cs k) = false; rw [← hasB_nat, hb2]; rfl
    refine S_off rfl rfl ?_
    refine S_off rfl rfl ?_
    refine S_off rfl rfl ?_
    refine S_off rfl rfl ?_
    refine S_off rfl rfl ?_
    refine S_off rfl rfl ?_
    refine S_off rfl rfl ?_
    refine S_off rfl rfl ?_
    refine S_val (Y_pickF rfl rfl) ?_
    refine S_nl rfl rfl ?_
    refine th_n (hK9 _ _ ?_)
    clear hK9 K9
    refine S_ifF rfl ?_
    refine wp_skip ?_
    refine ib_n ?_
    refine th_n (hK7 _ _ ?_)
    clear hK7 K7
    refine Sb 39 rfl ?_  -- 8
    refine S_val (Y_inc rfl rfl (by omega)) ?_
    refine S_val (Y_move rfl) ?_
    refine S_nl rfl rfl ?_
    refine th_n ?_
    go_roundw  -- e3 of L1
    case rel =>
     refine ⟨?_, GL1⟩
     first | exact ⟨k + 1, rs1, rfl, by rw [cntP_no hpk], by omega, O.cast (dropK_no hpk).symm, hsub.cast (dropK_no hpk).symm⟩ | exact ⟨k + 1, _, rfl, by rw [cntP_yes hpk], by omega, ⟨by rw [← dropK_yes hk1 hpk]; exact OR, fun _ => ⟨gq, post, rfl, hpq, Blk.eq Bq (by rw [← dropK_yes hk1 hpk]; exact flat_put (cs := dropK cs (fun i => m.testBit i && usedAt cs i) k) (rs := rs1) (c := emptyC) (r := (none, 0)) (by rw [dropK_len]; exact hlr) (by rw [dropK_len]; exact hk1))⟩⟩, (hsub.free k emptyC rfl (none, 0)).cast (dropK_yes hk1 hpk)⟩
    case measure =>
     exact dec_nat (by omega)
  · -- c1F
   replace hb1 := nb_tf hb1
   refine wp_exit ?_
   refine th_x ?_
   try clear GL1
   refine th_x ?_
   refine ib_e ?_
   refine th_n (hK3 _ _ ?_)
   clear hK6 K6 hK3 K3
   refine wp_seq_k fun K11 hK11 => ?_
   refine Sb 39 rfl ?_  -- 9
   refine S_val (Y_move rfl) ?_
   refine S_val (Y_assign rfl) ?_
   refine S_nl rfl rfl ?_
   refine th_n (hK11 _ _ ?_)
   clear hK11 K11
   refine wp_ret ?_
   refine ret_r1 rfl rfl ?_  -- r1
   rw [dropK_all (by omega)] at O hsub
   have hkN : k = cs.length := by omega
   subst hkN
   exact ⟨_, rfl, O, hsub, G⟩

set_option maxHeartbeats 400000 in
set_option maxRecDepth 20000 in
theorem impl_refersOutside_c (Pr : Nat → Prop) (A B : Option Addr) (h : LH) (c d m : Nat) (w : World) (hA : RC Pr w A h.cells) (hB : R1 Pr w B (ints h.roots)) (hz : hsize h ≤ 1048576) (hm : m < 2 ^ 64) (h64 : h.cells.length ≤ 64) :
    Calls Try.prog 67 #[.agg #[.slice A h.cells.length c, .slice B h.roots.length d], .int .u64 (m : Int)] w (Ret fun v w' => v = .bool (outB h (fun i => m.testBit i)) ∧ Grow w w') := by
 have hz1 := hsize_cells h
 have hz2 := hsize_roots h
 have hne : (70 : TypeId) ≠ 3 := by decide
 have hAl := hA.below
 have hBl := hB.below
 have hll := keptL_len h.cells (fun i => m.testBit i) h.cells.length
 refine enter Try.func67 rfl Try.ntmps67 (L := [_,_,_,_,_,_,_,_,_,_,_,_,_,_,_,_,_,_,_,_,_,_,_,_,_,_,_,_,_,_,_,_,_,_,_,_,_,_,_,_,_,_,_,_,_,_,_,_,_,_,_,_,_,_]) rfl ?_
 have G := Mod.refl No w
 have hAl0 := hAl
 have hBl0 := hBl
 refine wp_seq_k fun K1 hK1 => ?_
 refine Sb 54 rfl ?_  -- 0
 refine S_box (cs := [_, _]) rfl rfl ?_
 intro b1 w1 fb1 g1 B1
 have lb1 := B1.lt
 replace hAl := hAl.grow g1
 replace hBl := hBl.grow g1
 replace G := G.grow g1
 have zg1 := g1.size
 refine S_val (Y_assign rfl) ?_
 refine S_nl rfl rfl ?_
 refine th_n (hK1 _ _ ?_)
 clear hK1 K1
 refine wp_seq_k fun K2 hK2 => ?_
 refine Sb 54 rfl ?_  -- 1
 refine S_val (Y_loadS Try.underlying25 rfl sz25 rfl (B1.row (by rfl))) ?_  -- l1
 refine S_call rfl en71 (impl_usedSet_c _ _ _ _ _ _ _ (by assumption) (by omega)) ?_  -- k1 impl.usedSet
 rintro v2 w2 ⟨s2, rfl, hs2, g2⟩
 replace hAl := hAl.grow g2
 replace hBl := hBl.grow g2
 replace G := G.grow g2
 replace B1 := B1.grow g2
 have zg2 := g2.size
 obtain ⟨u0, rfl⟩ : ∃ x, x = s2 := ⟨_, rfl⟩
 have hU := hs2
 refine S_val (Y_move rfl) ?_
 refine S_val (Y_andNot rfl rfl hU.1 hm) ?_
 refine S_val (Y_assign rfl) ?_
 refine S_nl rfl rfl ?_
 refine th_n (hK2 _ _ ?_)
 clear hK2 K2
 refine wp_seq_k fun K3 hK3 => ?_
 refine Sb 54 rfl ?_  -- 2
 refine S_val (Y_field Try.underlying25 rfl fz25_1 (by decide) rfl) ?_
 refine S_val (Y_load Try.underlying22 rfl rfl (B1.at (by rfl))) ?_  -- l2
 refine S_bs1 (cs := [_]) Try.underlying112 zr22 sz22 rfl rfl rfl ?_
 intro b3 w3 fb3 g3 B3
 have lb3 := B3.lt
 replace hAl := hAl.grow g3
 replace hBl := hBl.grow g3
 replace G := G.grow g3
 replace B1 := B1.grow g3
 have zg3 := g3.size
 refine S_val (Y_assign rfl) ?_
 refine S_nl rfl rfl ?_
 refine th_n (hK3 _ _ ?_)
 clear hK3 K3
 refine wp_seq_k fun K4 hK4 => ?_
 refine wp_seq_k fun K5 hK5 => ?_
 refine Sb 54 rfl ?_  -- 3
 refine S_val (Y_field Try.underlying25 rfl fz25_0 (by decide) rfl) ?_
 refine S_val (Y_load Try.underlying23 rfl rfl (B1.at (by rfl))) ?_  -- l3
 refine S_val (Y_len Try.underlying23 rfl) ?_
 refine S_val (Y_move rfl) ?_
 refine S_nl rfl rfl ?_
 refine th_n (hK5 _ _ ?_)
 clear hK5 K5
 refine wp_block ?_
 obtain ⟨wz, hwz⟩ : ∃ x, x = w3.heap.size := ⟨_, rfl⟩
 have RS : RSs (fun i => i < w.heap.size) w3 [h.roots] [(B, d)] := RSs.one hBl
 have O1 : OW (fun i => i = b3 ∨ wz ≤ i) w3 22 1 (some ⟨b3, 0, none⟩) 1 1 (slv [h.roots] [(B, d)]) := OW.of_blk B3 rfl (by decide) (.inl rfl)
 go_loopw [6, 23] (fun u6 u23 wr => (∃ (k q cap : Nat) (A1 : Option Addr) (rs : List (Option Addr × Nat)), u23 = .int .i64 k ∧ u6 = .slice A1 q cap ∧ k ≤ h.cells.length ∧ q = (h.roots :: keptL h.cells (fun i => m.testBit i) k).length ∧ OW (fun i => i = b3 ∨ wz ≤ i) wr 22 1 A1 q cap (slv (h.roots :: keptL h.cells (fun i => m.testBit i) k) rs) ∧ RSs (fun i => i < w.heap.size) wr (h.roots :: keptL h.cells (fun i => m.testBit i) k) rs) ∧ Mod (fun i => i = b3 ∨ wz ≤ i) w3 wr) (fun u6 u23 wr => h.cells.length - (intOf u23).toNat)  -- L1
 case atStart =>
  refine ⟨?_, Mod.refl _ _⟩
  exact ⟨0, 1, 1, _, _, rfl, rfl, by omega, rfl, O1, RS⟩
 case round =>
  obtain ⟨w4, rfl⟩ : ∃ x : World, x = wr := ⟨_, rfl⟩
  obtain ⟨hrel, g4⟩ := hrel
  clear O1
  clear RS
  replace G := G.abv g4
  replace hAl := hAl0.grow G
  replace hBl := hBl0.grow G
  replace B1 := B1.md g4
  have zg4 := g4.size
  obtain ⟨k, q1, cap1, A1, rs, rfl, rfl, hk, hq1, O1, RS⟩ := hrel
  have hkl := keptL_len h.cells (fun i => m.testBit i) k
  rw [List.length_cons] at hq1
  have GL4 := g4
  refine wp_seq_k fun K6 hK6 => ?_
  refine Sb 54 rfl ?_  -- 4
  refine S_val (Y_lss rfl rfl) ?_
  refine S_nl rfl rfl ?_
  refine th_n (hK6 _ _ ?_)
  clear hK6 K6
  refine wp_seq_k fun K7 hK7 => ?_
  refine S_if rfl (fun hb1 => ?_) (fun hb1 => ?_)  -- c1
  · -- c1T
   replace hb1 := nb_tt hb1
   have hk1 : k < h.cells.length := by omega
   obtain ⟨g2, o2, E2, d2, rfl, hp2, cc20, hE20⟩ := hAl0.cell hk1
   have cc2 := cc20.grow G
   have hE2 := hE20.grow G
   replace O1 := O1.lt
   refine wp_skip ?_
   refine th_n (hK7 _ _ ?_)
   clear hK7 K7
   refine wp_seq_k fun K8 hK8 => ?_
   refine wp_block ?_
   refine wp_seq_k fun K9 hK9 => ?_
   refine Sb 54 rfl ?_  -- 5
   refine S_val (Y_move rfl) ?_
   refine S_val (Y_index Try.underlying23 sz70 rfl rfl (by first | assumption | omega)) ?_
   refine S_val (Y_loadS Try.underlying70 rfl sz70 rfl (by first | assumption | exact B1.row (by rfl))) ?_  -- l4
   refine S_alloc (cs := [_, _, _]) zr70 rfl ?_
   intro b5 w5 fb5 g5 B5
   have lb5 := B5.lt
   replace hAl := hAl.grow g5
   replace hBl := hBl.grow g5
   replace cc2 := cc2.grow g5
   replace hE2 := hE2.grow g5
   replace O1 := O1.grow g5
   replace RS := RS.grow g5
   replace G := G.grow g5
   replace GL4 := GL4.grow g5
   replace B1 := B1.grow g5
   have zg5 := g5.size
   refine S_val (Y_assign rfl) ?_
   refine S_stM (pre := []) (old := [_, _, _]) (post := []) (vs := [_, _, _]) sz70 rfl rfl rfl (by first | rfl | assumption) B5 rfl rfl ?_
   intro w6 m6 X6
   replace B5 := Blk.eq (ys := [_, _, _]) X6 rfl
   clear X6
   replace G := G.abv m6
   first | replace GL4 := GL4.abv m6 | clear GL4
   replace hAl := hAl0.grow G
   replace hBl := hBl0.grow G
   replace cc2 := cc20.grow G
   replace hE2 := hE20.grow G
   replace O1 := O1.md m6
   replace RS := RS.md m6
   replace B1 := B1.md m6
   have zm6 := m6.size
   refine S_nl rfl rfl ?_
   refine th_n (hK9 _ _ ?_)
   clear hK9 K9
   refine wp_seq_k fun K10 hK10 => ?_
   refine Sb 54 rfl ?_  -- 6
   refine S_val (Y_move rfl) ?_
   refine S_val (Y_move rfl) ?_
   refine S_call rfl en61 (impl_cellSet_has_c _ _ _ (by assumption)) ?_  -- k2 (impl.cellSet).has
   rintro v w' ⟨rfl, rfl⟩
   refine S_nl rfl rfl ?_
   refine th_n (hK10 _ _ ?_)
   clear hK10 K10
   refine S_if rfl (fun hb2 => ?_) (fun hb2 => ?_)  -- c2
   · -- c2T
    first | with_reducible (replace hb2 := nb_nt hb2) | with_reducible (replace hb2 := nb_tt hb2) | with_reducible (replace hb2 := nb_bt hb2) | skip
    refine Sb 54 rfl ?_  -- 7
    refine S_val (Y_move rfl) ?_
    refine S_val (Y_field Try.underlying70 rfl fz70_2 (by decide) rfl) ?_
    refine S_val (Y_load Try.underlying22 rfl rfl (B5.at (by rfl))) ?_  -- l5
    refine S_bs1 (cs := [_]) Try.underlying112 zr22 sz22 rfl rfl rfl ?_
    intro b8 w8 fb8 g8 B8
    have lb8 := B8.lt
    replace hAl := hAl.grow g8
    replace hBl := hBl.grow g8
    replace cc2 := cc2.grow g8
    replace hE2 := hE2.grow g8
    replace O1 := O1.grow g8
    replace RS := RS.grow g8
    replace G := G.grow g8
    replace GL4 := GL4.grow g8
    replace B1 := B1.grow g8
    replace B5 := B5.grow g8
    have zg8 := g8.size
    refine S_app Try.underlying112 zr22 sz22 by22 rfl rfl O1 rfl (Src.blk B8) (by simp [Value.oneCell']) (by omega) (Pr' := fun i => i = b3 ∨ wz ≤ i) (fun i hi => hi.1) (by omega) ?_
    intro A9 cap9 w9 X9 m9
    replace O1 := X9
    clear X9
    replace G := G.abv m9
    replace GL4 := GL4.trn m9
    replace hAl := hAl0.grow G
    replace hBl := hBl0.grow G
    replace cc2 := cc20.grow G
    replace hE2 := hE20.grow G
    replace RS := RS.md m9
    replace B1 := B1.md m9
    replace B5 := B5.md m9
    have zm9 := m9.size
    have hks := keptL_yes (cs := h.cells) (k := k) (s := (fun i => m.testBit i)) (by show m.testBit k = true; rw [← hasB_nat]; exact hb2)
    rw [refsOf_at hk1] at hks
    have RS2 := RS.snoc (c := d2) hE2
    refine S_val (Y_assign rfl) ?_
    refine S_nl rfl rfl ?_
    refine ib_n ?_
    refine th_n (hK8 _ _ ?_)
    clear hK8 K8
    refine Sb 54 rfl ?_  -- 8
    refine S_val (Y_inc rfl rfl (by omega)) ?_
    refine S_val (Y_move rfl) ?_
    refine S_nl rfl rfl ?_
    refine th_n ?_
    go_roundw  -- e1 of L1
    case rel =>
     refine ⟨?_, GL4⟩
     refine ⟨k + 1, _, _, _, rs ++ [(E2, d2)], rfl, rfl, by omega, ?_, ?_, ?_⟩
     · rw [hks, List.length_cons, List.length_append]; simp; omega
     · rw [hks, ← List.cons_append, ← slv_snoc RS.len]; exact O1
     · rw [hks, ← List.cons_append]; exact RS2
    case measure =>
     exact dec_nat (by omega)
   · -- c2F
    first | with_reducible (replace hb2 := nb_nf hb2) | with_reducible (replace hb2 := nb_tf hb2) | with_reducible (replace hb2 := nb_bf hb2) | skip
    refine wp_skip ?_
    refine ib_n ?_
    refine th_n (hK8 _ _ ?_)
    clear hK8 K8
    refine Sb 54 rfl ?_  -- 8
    refine S_val (Y_inc rfl rfl (by omega)) ?_
    refine S_val (Y_move rfl) ?_
    refine S_nl rfl rfl ?_
    refine th_n ?_
    go_roundw  -- e2 of L1
    case rel =>
     refine ⟨?_, GL4⟩
     have hks := keptL_no (cs := h.cells) (k := k) (s := (fun i => m.testBit i)) (by show m.testBit k = false; rw [← hasB_nat]; exact hb2)
     exact ⟨k + 1, _, _, _, rs, rfl, rfl, by omega, by rw [hks, List.length_cons]; omega, by rw [hks]; exact O1.weak (fun i hi => hi.1), by rw [hks]; exact RS⟩
    case measure =>
     exact dec_nat (by omega)
  · -- c1F
   replace hb1 := nb_tf hb1
   have hkN : k = h.cells.length := by omega
   rw [hkN] at hq1 O1 RS
   have hql : q1 = (allL h (fun i => m.testBit i)).length := hq1
   have hnl := keptL_len h.cells (fun i => m.testBit i) h.cells.length
   refine wp_exit ?_
   refine th_x ?_
   try clear GL4
   refine th_x ?_
   refine ib_e ?_
   refine th_n (hK4 _ _ ?_)
   clear hK7 K7 hK4 K4
   refine wp_seq_k fun K11 hK11 => ?_
   refine wp_seq_k fun K12 hK12 => ?_
   refine Sb 54 rfl ?_  -- 9
   refine S_val (Y_move rfl) ?_
   refine S_val (Y_len Try.underlying112 rfl) ?_
   refine S_val (Y_move rfl) ?_
   refine S_nl rfl rfl ?_
   refine th_n (hK12 _ _ ?_)
   clear hK12 K12
   refine wp_block ?_
   go_loopw [39] (fun u39 wr => (∃ k : Nat, u39 = .int .i64 k ∧ k ≤ q1 ∧ outL h.cells (fun i => m.testBit i) ((allL h (fun i => m.testBit i)).take k) = false) ∧ Mod No w4 wr) (fun u39 wr => q1 - (intOf u39).toNat)  -- L2
   case atStart =>
    refine ⟨?_, Mod.refl _ _⟩
    exact ⟨0, rfl, by omega, rfl⟩
   case round =>
    obtain ⟨w10, rfl⟩ : ∃ x : World, x = wr := ⟨_, rfl⟩
    obtain ⟨hrel, g10⟩ := hrel
    replace hAl := hAl.grow g10
    replace hBl := hBl.grow g10
    replace O1 := O1.grow g10
    replace RS := RS.grow g10
    replace G := G.grow g10
    replace B1 := B1.grow g10
    have zg10 := g10.size
    obtain ⟨j, rfl, hj, hno⟩ := hrel
    have GL10 := g10
    refine wp_seq_k fun K13 hK13 => ?_
    refine Sb 54 rfl ?_  -- 10
    refine S_val (Y_lss rfl rfl) ?_
    refine S_nl rfl rfl ?_
    refine th_n (hK13 _ _ ?_)
    clear hK13 K13
    refine wp_seq_k fun K14 hK14 => ?_
    refine S_if rfl (fun hb2 => ?_) (fun hb2 => ?_)  -- c3
    · -- c3T
     replace hb2 := nb_tt hb2
     have hj1 : j < (allL h (fun i => m.testBit i)).length := by omega
     obtain ⟨xs, hxs⟩ : ∃ xs, (allL h (fun i => m.testBit i))[j]? = some xs := ⟨_, List.getElem?_eq_getElem hj1⟩
     obtain ⟨⟨AX, cX⟩, hrr⟩ : ∃ r, rs[j]? = some r := ⟨_, List.getElem?_eq_getElem (by rw [RS.len]; exact hj1)⟩
     have hX : R1 (fun i => i < w.heap.size) w10 AX (ints xs) := RS.r1 j xs _ hxs hrr
     obtain ⟨g3, o3, rfl, hp3, hc3⟩ := O1.r1 j _ (slv_get hxs hrr)
     replace hc3 : w10.cell? ⟨g3, o3 + j * 1, none⟩ = some (.slice AX xs.length cX) := hc3
     have hxl : xs.length ≤ 1048576 := by
       rcases List.mem_cons.1 (List.mem_of_getElem? hxs) with e | e
       · rw [e]; omega
       · obtain ⟨i, hi, _, e⟩ := keptL_mem.1 e
         rw [e, refsOf_at hi]; have := hsize_refs h hi; omega
     refine wp_skip ?_
     refine th_n (hK14 _ _ ?_)
     clear hK14 K14
     refine wp_seq_k fun K15 hK15 => ?_
     refine wp_block ?_
     refine wp_seq_k fun K16 hK16 => ?_
     refine Sb 54 rfl ?_  -- 11
     refine S_val (Y_index Try.underlying112 sz22 rfl rfl (by first | assumption | omega)) ?_
     refine S_val (Y_load Try.underlying22 rfl rfl (by first | assumption | exact B1.at (by rfl))) ?_  -- l6
     refine S_val (Y_assign rfl) ?_
     refine S_nl rfl rfl ?_
     refine th_n (hK16 _ _ ?_)
     clear hK16 K16
     refine wp_seq_k fun K17 hK17 => ?_
     refine Sb 54 rfl ?_  -- 12
     refine S_val (Y_move rfl) ?_
     refine S_val (Y_len Try.underlying22 rfl) ?_
     refine S_val (Y_move rfl) ?_
     refine S_nl rfl rfl ?_
     refine th_n (hK17 _ _ ?_)
     clear hK17 K17
     refine wp_block ?_
     go_loopw [45] (fun u45 wr => (∃ k : Nat, u45 = .int .i64 k ∧ k ≤ xs.length ∧ (xs.take k).any (outR h.cells (fun i => m.testBit i)) = false) ∧ Mod No w10 wr) (fun u45 wr => xs.length - (intOf u45).toNat)  -- L3
     case atStart =>
      refine ⟨?_, Mod.refl _ _⟩
      exact ⟨0, rfl, by omega, rfl⟩
     case round =>
      obtain ⟨w11, rfl⟩ : ∃ x : World, x = wr := ⟨_, rfl⟩
      obtain ⟨hrel, g11⟩ := hrel
      replace hAl := hAl.grow g11
      replace hBl := hBl.grow g11
      replace O1 := O1.grow g11
      replace RS := RS.grow g11
      replace hX := hX.grow g11
      replace G := G.grow g11
      replace GL10 := GL10.grow g11
      replace B1 := B1.grow g11
      have zg11 := g11.size
      obtain ⟨i, rfl, hi, hnx⟩ := hrel
      have GL11 := g11
      refine wp_seq_k fun K18 hK18 => ?_
      refine Sb 54 rfl ?_  -- 13
      refine S_val (Y_lss rfl rfl) ?_
      refine S_nl rfl rfl ?_
      refine th_n (hK18 _ _ ?_)
      clear hK18 K18
      refine wp_seq_k fun K19 hK19 => ?_
      refine S_if rfl (fun hb3 => ?_) (fun hb3 => ?_)  -- c4
      · -- c4T
       replace hb3 := nb_tt hb3
       have hi1 : i < xs.length := by omega
       obtain ⟨g4, o4, rfl, hp4, hc4⟩ := hX.int hi1
       have hor : outR h.cells (fun i => m.testBit i) xs[i] = hasB (lessN u0 m) xs[i] := out_has hU hm _
       refine wp_skip ?_
       refine th_n (hK19 _ _ ?_)
       clear hK19 K19
       refine wp_seq_k fun K20 hK20 => ?_
       refine wp_block ?_
       refine wp_seq_k fun K21 hK21 => ?_
       refine Sb 54 rfl ?_  -- 14
       refine S_val (Y_index Try.underlying22 sz3 rfl rfl (by first | assumption | omega)) ?_
       refine S_val (Y_load Try.underlying3 rfl rfl (by first | assumption | exact B1.at (by rfl))) ?_  -- l7
       refine S_val (Y_assign rfl) ?_
       refine S_nl rfl rfl ?_
       refine th_n (hK21 _ _ ?_)
       clear hK21 K21
       refine wp_seq_k fun K22 hK22 => ?_
       refine Sb 54 rfl ?_  -- 15
       refine S_val (Y_move rfl) ?_
       refine S_val (Y_move rfl) ?_
       refine S_call rfl en61 (impl_cellSet_has_c _ _ _ (lessN_lt hU.1)) ?_  -- k3 (impl.cellSet).has
       rintro v w' ⟨rfl, rfl⟩
       refine S_nl rfl rfl ?_
       refine th_n (hK22 _ _ ?_)
       clear hK22 K22
       refine S_if rfl (fun hb4 => ?_) (fun hb4 => ?_)  -- c5
       · -- c5T
        first | with_reducible (replace hb4 := nb_nt hb4) | with_reducible (replace hb4 := nb_tt hb4) | with_reducible (replace hb4 := nb_bt hb4) | skip
        refine wp_seq_k fun K23 hK23 => ?_
        refine Sb 54 rfl ?_  -- 16
        refine S_val (Y_assign rfl) ?_
        refine S_nl rfl rfl ?_
        refine th_n (hK23 _ _ ?_)
        clear hK23 K23
        refine wp_ret ?_
        refine ib_r ?_
        refine th_r ?_
        try clear GL11
        refine th_r ?_
        refine ib_r ?_
        refine ib_r ?_
        refine th_r ?_
        try clear GL10
        refine th_r ?_
        refine ib_r ?_
        refine th_r ?_
        clear hK20 K20 hK15 K15 hK11 K11
        refine ret_r1 rfl rfl ?_  -- r1
        exact ⟨by rw [show outB h (fun i => m.testBit i) = true from out_hit hxs hi1 (hor.trans hb4)], G⟩
       · -- c5F
        first | with_reducible (replace hb4 := nb_nf hb4) | with_reducible (replace hb4 := nb_tf hb4) | with_reducible (replace hb4 := nb_bf hb4) | skip
        refine wp_skip ?_
        refine ib_n ?_
        refine th_n (hK20 _ _ ?_)
        clear hK20 K20
        refine Sb 54 rfl ?_  -- 17
        refine S_val (Y_inc rfl rfl (by omega)) ?_
        refine S_val (Y_move rfl) ?_
        refine S_nl rfl rfl ?_
        refine th_n ?_
        go_roundw  -- e3 of L3
        case rel =>
         refine ⟨?_, GL11⟩
         exact ⟨i + 1, rfl, by omega, any_take (List.getElem?_eq_getElem hi1) hnx (hor.trans hb4)⟩
        case measure =>
         exact dec_nat (by omega)
      · -- c4F
       replace hb3 := nb_tf hb3
       refine wp_exit ?_
       refine th_x ?_
       try clear GL11
       refine th_x ?_
       refine ib_e ?_
       refine ib_n ?_
       refine th_n (hK15 _ _ ?_)
       clear hK19 K19 hK15 K15
       refine Sb 54 rfl ?_  -- 18
       refine S_val (Y_inc rfl rfl (by omega)) ?_
       refine S_val (Y_move rfl) ?_
       refine S_nl rfl rfl ?_
       refine th_n ?_
       go_roundw  -- e4 of L2
       case rel =>
        refine ⟨?_, GL10⟩
        rw [List.take_of_length_le (by omega)] at hnx
        exact ⟨j + 1, rfl, by omega, any_take hxs hno hnx⟩
       case measure =>
        exact dec_nat (by omega)
    · -- c3F
     replace hb2 := nb_tf hb2
     refine wp_exit ?_
     refine th_x ?_
     try clear GL10
     refine th_x ?_
     refine ib_e ?_
     refine th_n (hK11 _ _ ?_)
     clear hK14 K14 hK11 K11
     refine wp_seq_k fun K24 hK24 => ?_
     refine Sb 54 rfl ?_  -- 19
     refine S_val (Y_assign rfl) ?_
     refine S_nl rfl rfl ?_
     refine th_n (hK24 _ _ ?_)
     clear hK24 K24
     refine wp_ret ?_
     refine ret_r1 rfl rfl ?_  -- r2
     rw [List.take_of_length_le (by omega)] at hno
     exact ⟨by rw [show outB h (fun i => m.testBit i) = false from hno], G⟩

set_option maxHeartbeats 400000 in
set_option maxRecDepth 20000 in
theorem impl_SweepCells_c (Pr P2 : Nat → Prop) (A B C : Option Addr) (h : LH) (ms : List Bool) (c d e : Nat) (w : World) (hA : RC Pr w A h.cells) (hB : R1 Pr w B (ints h.roots)) (hC : R1 P2 w C (bools ms)) (hz : hsize h ≤ 1048576) (hmz : ms.length ≤ 1048576) :
    Calls Try.prog 27 #[.agg #[.slice A h.cells.length c, .slice B h.roots.length d], .slice C ms.length e] w (Ret fun v w' => ∃ A1 B1 n1 c1 n2 c2 rs, v = .tuple #[.agg #[.slice A1 n1 c1, .slice B1 n2 c2], .int .i64 (sweepV h ms).2] ∧ n1 = (sweepV h ms).1.cells.length ∧ n2 = (sweepV h ms).1.roots.length ∧ OH (fun i => w.heap.size ≤ i) w' 70 3 A1 B1 (sweepV h ms).1 rs ∧ Grow w w') := by
 have hz1 := hsize_cells h
 have hz2 := hsize_roots h
 have hne : (70 : TypeId) ≠ 3 := by decide
 refine enter Try.func27 rfl Try.ntmps27 (L := [_,_,_,_,_,_,_,_,_,_,_,_,_,_,_,_,_,_,_,_,_,_,_,_,_,_,_,_,_,_,_,_,_,_,_,_]) rfl ?_
 have G := Mod.refl No w
 have hA0 := hA
 have hB0 := hB
 have hC0 := hC
 refine wp_seq_k fun K1 hK1 => ?_
 refine Sb 36 rfl ?_  -- 0
 refine S_box (cs := [_, _]) rfl rfl ?_
 intro b1 w1 fb1 g1 B1
 have lb1 := B1.lt
 replace hA := hA.grow g1
 replace hB := hB.grow g1
 replace hC := hC.grow g1
 replace G := G.grow g1
 have zg1 := g1.size
 refine S_alloc (cs := [_, _]) zr25 rfl ?_
 intro b2 w2 fb2 g2 B2
 have lb2 := B2.lt
 replace hA := hA.grow g2
 replace hB := hB.grow g2
 replace hC := hC.grow g2
 replace G := G.grow g2
 replace B1 := B1.grow g2
 have zg2 := g2.size
 refine S_val (Y_assign rfl) ?_
 refine S_nl rfl rfl ?_
 refine th_n (hK1 _ _ ?_)
 clear hK1 K1
 refine wp_seq_k fun K2 hK2 => ?_
 refine wp_seq_k fun K3 hK3 => ?_
 refine D_start 17 36 (fun w => Mod (No) w) follows rfl rfl ?_  -- d1 r1
 intro w3 g3
 replace hA := hA.grow g3
 replace hB := hB.grow g3
 replace hC := hC.grow g3
 replace G := G.grow g3
 replace B1 := B1.grow g3
 replace B2 := B2.grow g3
 have zg3 := g3.size
 have GS3 := Mod.refl (No) w3
 have B1d3 := B1
 refine Dq (i := 0) rfl GS3 (fun _ hs => Y_loadS Try.underlying25 rfl sz25 rfl (by first | exact hs.cells0 (B1.row (by rfl)))) ?_
 refine D_1 (i := 1) (by kernel_rfl) ?_
 refine E_call rfl rfl en47 (impl_HeapValid_c _ _ _ _ _ _ _ (by assumption) (by assumption) (by omega)) ?_  -- k1 impl.HeapValid
 rintro v4 w4 ⟨rfl, g4⟩
 replace hA := hA.grow g4
 replace hB := hB.grow g4
 replace hC := hC.grow g4
 replace G := G.grow g4
 replace GS3 := GS3.grow g4
 replace B1 := B1.grow g4
 replace B2 := B2.grow g4
 have zg4 := g4.size
 refine ⟨GS3, ?_⟩
 refine Dq (i := 2) rfl GS3 (fun _ _ => Y_not rfl) ?_
 refine Dq (i := 3) rfl GS3 (fun _ _ => Y_move rfl) ?_
 refine D_g 11 rfl (fun hb1 => ?_) (fun hb1 => ?_)  -- g1
 · -- g1T
  first | with_reducible (replace hb1 := nb_nt hb1) | with_reducible (replace hb1 := nb_tt hb1) | with_reducible (replace hb1 := nb_bt hb1) | skip
  refine Dqoff (i := 4) rfl rfl rfl GS3 ?_
  refine Dqoff (i := 5) rfl rfl rfl GS3 ?_
  refine Dqoff (i := 6) rfl rfl rfl GS3 ?_
  refine Dqoff (i := 7) rfl rfl rfl GS3 ?_
  refine Dqoff (i := 8) rfl rfl rfl GS3 ?_
  refine Dqoff (i := 9) rfl rfl rfl GS3 ?_
  refine Dq (i := 10) rfl GS3 (fun _ _ => Y_pickT rfl rfl) ?_
  refine Dq (i := 11) rfl GS3 (fun _ _ => Y_move rfl) ?_
  refine Dqoff (i := 12) rfl rfl rfl GS3 ?_
  refine Dqoff (i := 13) rfl rfl rfl GS3 ?_
  refine Dqoff (i := 14) rfl rfl rfl GS3 ?_
  refine Dqoff (i := 15) rfl rfl rfl GS3 ?_
  refine Dq (i := 16) rfl GS3 (fun _ _ => Y_pickT rfl rfl) ?_
  refine D_en (by kernel_rfl) rfl rfl ?_
  refine th_n (hK3 _ _ ?_)
  clear hK3 K3
  refine S_ifT rfl ?_
  refine wp_seq_k fun K4 hK4 => ?_
  refine Sb 36 rfl ?_  -- 2
  refine S_val (Y_build (cs := [_, _]) zr25 pc25 rfl rfl) ?_
  refine S_stM (pre := []) (old := [_, _]) (post := []) (vs := [_, _]) sz25 rfl rfl rfl (by first | rfl | assumption) B2 rfl rfl ?_
  intro w5 m5 X5
  replace B2 := Blk.eq (ys := [_, _]) X5 rfl
  clear X5
  replace G := G.abv m5
  replace hA := hA0.grow G
  replace hB := hB0.grow G
  replace hC := hC0.grow G
  replace B1 := B1.md m5
  have zm5 := m5.size
  refine S_val (Y_assign rfl) ?_
  refine S_nl rfl rfl ?_
  refine th_n (hK4 _ _ ?_)
  clear hK4 K4
  refine wp_ret ?_
  refine th_r ?_
  clear hK2 K2
  refine ret_rct (cs := [_, _]) Try.underlying25 rfl sz25 rfl rfl rfl (B2.row (by rfl)) ?_  -- r1
  have hsv := sweepV_f1 (ms := ms) hb1
  exact ⟨_, _, _, _, _, _, [], by rw [hsv], by rw [hsv]; rfl, by rw [hsv]; rfl, by rw [hsv]; exact OH.nil _ _ _ _ _ _, G⟩
 · -- g1F
  first | with_reducible (replace hb1 := nb_nf hb1) | with_reducible (replace hb1 := nb_tf hb1) | with_reducible (replace hb1 := nb_bf hb1) | skip
  have va := valid_iff.1 hb1
  have hl := va.leads
  have h40 := va.le
  have hr4 := va.roots4
  refine Dqon (i := 4) rfl rfl rfl GS3 (fun _ _ => Y_move rfl) ?_
  refine Dqon (i := 5) rfl rfl rfl GS3 (fun _ _ => Y_len Try.underlying38 rfl) ?_
  refine Dqon (i := 6) rfl rfl rfl GS3 (fun _ _ => Y_field Try.underlying25 rfl fz25_0 (by decide) rfl) ?_
  refine Dqon (i := 7) rfl rfl rfl GS3 (fun _ hs => Y_load Try.underlying23 rfl rfl (by first | exact hs.cell0 (B1.at (by rfl)) | exact hs.cell0 (B1d3.at (by rfl)))) ?_
  refine Dqon (i := 8) rfl rfl rfl GS3 (fun _ _ => Y_len Try.underlying23 rfl) ?_
  refine Dqon (i := 9) rfl rfl rfl GS3 (fun _ _ => Y_neq rfl rfl) ?_
  refine Dq (i := 10) rfl GS3 (fun _ _ => Y_pickF rfl rfl) ?_
  refine Dq (i := 11) rfl GS3 (fun _ _ => Y_move rfl) ?_
  refine D_g 19 rfl (fun hb2 => ?_) (fun hb2 => ?_)  -- g2
  · -- g2T
   first | with_reducible (replace hb2 := nb_nt hb2) | with_reducible (replace hb2 := nb_tt hb2) | with_reducible (replace hb2 := nb_bt hb2) | skip
   refine Dqoff (i := 12) rfl rfl rfl GS3 ?_
   refine Dqoff (i := 13) rfl rfl rfl GS3 ?_
   refine Dqoff (i := 14) rfl rfl rfl GS3 ?_
   refine Dqoff (i := 15) rfl rfl rfl GS3 ?_
   refine Dq (i := 16) rfl GS3 (fun _ _ => Y_pickT rfl rfl) ?_
   refine D_en (by kernel_rfl) rfl rfl ?_
   refine th_n (hK3 _ _ ?_)
   clear hK3 K3
   refine S_ifT rfl ?_
   refine wp_seq_k fun K5 hK5 => ?_
   refine Sb 36 rfl ?_  -- 2
   refine S_val (Y_build (cs := [_, _]) zr25 pc25 rfl rfl) ?_
   refine S_stM (pre := []) (old := [_, _]) (post := []) (vs := [_, _]) sz25 rfl rfl rfl (by first | rfl | assumption) B2 rfl rfl ?_
   intro w6 m6 X6
   replace B2 := Blk.eq (ys := [_, _]) X6 rfl
   clear X6
   replace G := G.abv m6
   replace hA := hA0.grow G
   replace hB := hB0.grow G
   replace hC := hC0.grow G
   replace B1 := B1.md m6
   have zm6 := m6.size
   refine S_val (Y_assign rfl) ?_
   refine S_nl rfl rfl ?_
   refine th_n (hK5 _ _ ?_)
   clear hK5 K5
   refine wp_ret ?_
   refine th_r ?_
   clear hK2 K2
   refine ret_rct (cs := [_, _]) Try.underlying25 rfl sz25 rfl rfl rfl (B2.row (by rfl)) ?_  -- r2
   have hsv := sweepV_f2 (h := h) (ms := ms) (by omega)
   exact ⟨_, _, _, _, _, _, [], by rw [hsv], by rw [hsv]; rfl, by rw [hsv]; rfl, by rw [hsv]; exact OH.nil _ _ _ _ _ _, G⟩
  · -- g2F
   first | with_reducible (replace hb2 := nb_nf hb2) | with_reducible (replace hb2 := nb_tf hb2) | with_reducible (replace hb2 := nb_bf hb2) | skip
   have hlen : ms.length = h.cells.length := by omega
   refine Dqon (i := 12) rfl rfl rfl GS3 (fun _ hs => Y_loadS Try.underlying25 rfl sz25 rfl (by first | exact hs.cells0 (B1.row (by rfl)) | exact hs.cells0 (B1d3.row (by rfl)))) ?_
   refine Dqon (i := 13) rfl rfl rfl GS3 (fun _ _ => Y_move rfl) ?_
   refine D_1 (i := 14) (by kernel_rfl) ?_
   refine E_calln rfl rfl rfl rfl en68 (impl_setOf_c _ _ _ _ _ (by assumption) (by omega)) ?_  -- k2 impl.setOf
   rintro v7 w7 ⟨s7, rfl, hs7, g7⟩
   replace hA := hA.grow g7
   replace hB := hB.grow g7
   replace hC := hC.grow g7
   replace G := G.grow g7
   replace GS3 := GS3.grow g7
   replace B1 := B1.grow g7
   replace B2 := B2.grow g7
   have zg7 := g7.size
   have hM1 := hs7
   refine ⟨GS3, ?_⟩
   refine D_1 (i := 15) (by kernel_rfl) ?_
   refine E_calln rfl rfl rfl rfl en67 (impl_refersOutside_c _ _ _ _ _ _ _ _ (by assumption) (by assumption) (by omega) hM1.1 (by omega)) ?_  -- k3 impl.refersOutside
   rintro v8 w8 ⟨rfl, g8⟩
   replace hA := hA.grow g8
   replace hB := hB.grow g8
   replace hC := hC.grow g8
   replace G := G.grow g8
   replace GS3 := GS3.grow g8
   replace B1 := B1.grow g8
   replace B2 := B2.grow g8
   have zg8 := g8.size
   refine ⟨GS3, ?_⟩
   refine Dq (i := 16) rfl GS3 (fun _ _ => Y_pickF rfl rfl) ?_
   refine D_en (by kernel_rfl) rfl rfl ?_
   refine th_n (hK3 _ _ ?_)
   clear hK3 K3
   refine S_if rfl (fun hb3 => ?_) (fun hb3 => ?_)  -- c1
   · -- c1T
    first | with_reducible (replace hb3 := nb_nt hb3) | with_reducible (replace hb3 := nb_tt hb3) | with_reducible (replace hb3 := nb_bt hb3) | skip
    have hsw : validB (dropH h (sweepP ms)) = !outB h (inB ms) := out_valid va (inB ms)
    rw [← set_in hM1, hb3] at hsw
    refine wp_seq_k fun K6 hK6 => ?_
    refine Sb 36 rfl ?_  -- 2
    refine S_val (Y_build (cs := [_, _]) zr25 pc25 rfl rfl) ?_
    refine S_stM (pre := []) (old := [_, _]) (post := []) (vs := [_, _]) sz25 rfl rfl rfl (by first | rfl | assumption) B2 rfl rfl ?_
    intro w9 m9 X9
    replace B2 := Blk.eq (ys := [_, _]) X9 rfl
    clear X9
    replace G := G.abv m9
    replace hA := hA0.grow G
    replace hB := hB0.grow G
    replace hC := hC0.grow G
    replace B1 := B1.md m9
    have zm9 := m9.size
    refine S_val (Y_assign rfl) ?_
    refine S_nl rfl rfl ?_
    refine th_n (hK6 _ _ ?_)
    clear hK6 K6
    refine wp_ret ?_
    refine th_r ?_
    clear hK2 K2
    refine ret_rct (cs := [_, _]) Try.underlying25 rfl sz25 rfl rfl rfl (B2.row (by rfl)) ?_  -- r3
    have hsv := sweepV_f3 hsw
    exact ⟨_, _, _, _, _, _, [], by rw [hsv], by rw [hsv]; rfl, by rw [hsv]; rfl, by rw [hsv]; exact OH.nil _ _ _ _ _ _, G⟩
   · -- c1F
    first | with_reducible (replace hb3 := nb_nf hb3) | with_reducible (replace hb3 := nb_tf hb3) | with_reducible (replace hb3 := nb_bf hb3) | skip
    have hsw : validB (dropH h (sweepP ms)) = !outB h (inB ms) := out_valid va (inB ms)
    rw [← set_in hM1, hb3] at hsw
    refine wp_skip ?_
    refine th_n (hK2 _ _ ?_)
    clear hK2 K2
    refine wp_seq_k fun K7 hK7 => ?_
    refine Sb 36 rfl ?_  -- 3
    refine S_val (Y_loadS Try.underlying25 rfl sz25 rfl (B1.row (by rfl))) ?_  -- l4
    refine S_call rfl en69 (impl_copyHeap_c _ _ _ _ _ _ _ (by assumption) (by assumption) (by omega)) ?_  -- k4 impl.copyHeap
    rintro v10 w10 ⟨A10, B10, n110, c110, n210, c210, rs10, rfl, hn110, hn210, O10, g10⟩
    replace hA := hA.grow g10
    replace hB := hB.grow g10
    replace hC := hC.grow g10
    replace G := G.grow g10
    replace B1 := B1.grow g10
    replace B2 := B2.grow g10
    have zg10 := g10.size
    subst hn110
    subst hn210
    obtain ⟨AH, rfl⟩ : ∃ x, x = A10 := ⟨_, rfl⟩
    obtain ⟨BH, rfl⟩ : ∃ x, x = B10 := ⟨_, rfl⟩
    obtain ⟨cH, rfl⟩ : ∃ x, x = c110 := ⟨_, rfl⟩
    obtain ⟨dH, rfl⟩ : ∃ x, x = c210 := ⟨_, rfl⟩
    obtain ⟨rsH, rfl⟩ : ∃ x, x = rs10 := ⟨_, rfl⟩
    have OX := O10.lt
    refine S_alloc (cs := [_, _]) zr25 rfl ?_
    intro b11 w11 fb11 g11 B11
    have lb11 := B11.lt
    replace hA := hA.grow g11
    replace hB := hB.grow g11
    replace hC := hC.grow g11
    replace OX := OX.grow g11
    replace G := G.grow g11
    replace B1 := B1.grow g11
    replace B2 := B2.grow g11
    have zg11 := g11.size
    refine S_stM (pre := []) (old := [_, _]) (post := []) (vs := [_, _]) sz25 rfl rfl rfl (by first | rfl | assumption) B11 rfl rfl ?_
    intro w12 m12 X12
    replace B11 := Blk.eq (ys := [_, _]) X12 rfl
    clear X12
    replace G := G.abv m12
    replace hA := hA0.grow G
    replace hB := hB0.grow G
    replace hC := hC0.grow G
    replace OX := OX.md m12
    replace B1 := B1.md m12
    replace B2 := B2.md m12
    have zm12 := m12.size
    refine S_nl rfl rfl ?_
    refine th_n (hK7 _ _ ?_)
    clear hK7 K7
    refine wp_seq_k fun K8 hK8 => ?_
    refine Sb 36 rfl ?_  -- 4
    refine S_val (Y_loadS Try.underlying25 rfl sz25 rfl (B1.row (by rfl))) ?_  -- l5
    refine S_call rfl en71 (impl_usedSet_c _ _ _ _ _ _ _ (by assumption) (by omega)) ?_  -- k5 impl.usedSet
    rintro v13 w13 ⟨s13, rfl, hs13, g13⟩
    replace hA := hA.grow g13
    replace hB := hB.grow g13
    replace hC := hC.grow g13
    replace OX := OX.grow g13
    replace G := G.grow g13
    replace B1 := B1.grow g13
    replace B2 := B2.grow g13
    replace B11 := B11.grow g13
    have zg13 := g13.size
    obtain ⟨u0, rfl⟩ : ∃ x, x = s13 := ⟨_, rfl⟩
    have hU := hs13
    refine S_val (Y_move rfl) ?_
    refine S_call rfl en68 (impl_setOf_c _ _ _ _ _ (by assumption) (by omega)) ?_  -- k6 impl.setOf
    rintro v14 w14 ⟨s14, rfl, hs14, g14⟩
    replace hA := hA.grow g14
    replace hB := hB.grow g14
    replace hC := hC.grow g14
    replace OX := OX.grow g14
    replace G := G.grow g14
    replace B1 := B1.grow g14
    replace B2 := B2.grow g14
    replace B11 := B11.grow g14
    have zg14 := g14.size
    obtain ⟨m0, rfl⟩ : ∃ x, x = s14 := ⟨_, rfl⟩
    have hM := hs14
    refine S_val (Y_andNot rfl rfl hU.1 hM.1) ?_
    refine S_call rfl en70 (impl_freeCells_c _ b11 _ _ h.cells _ _ _ _ B11 (OX.split hne) (lessN_lt hU.1) (by omega) (fun hh => by have h2 := hh.1; dsimp only at h2; omega)) ?_  -- k7 impl.freeCells
    rintro v15 w15 ⟨rs9, rfl, OC9, sub9, mq15⟩
    have OR9 := OX.roots.keep mq15 (fun b e1 e2 e3 => e3.2 ⟨e1, ints_ne.1 e2⟩)
    have m15 := mq15.weak (T := fun i => b2 < i ∧ i < b11) (fun i h _ => by have h2 := h.1; dsimp only at h2; omega)
    replace OC9 := OC9.weak (Pr' := fun i => b2 < i ∧ i < b11) (fun i h => by have h2 := h.1; dsimp only at h2; omega)
    replace G := G.abv m15
    replace hA := hA0.grow G
    replace hB := hB0.grow G
    replace hC := hC0.grow G
    replace B1 := B1.md m15
    replace B2 := B2.md m15
    replace B11 := B11.md m15
    have zm15 := m15.size
    refine S_val (Y_assign rfl) ?_
    refine S_nl rfl rfl ?_
    refine th_n (hK8 _ _ ?_)
    clear hK8 K8
    refine wp_seq_k fun K9 hK9 => ?_
    refine Sb 36 rfl ?_  -- 5
    refine S_val (Y_loadS Try.underlying25 rfl sz25 rfl (B11.row (by rfl))) ?_  -- l6
    refine S_val (Y_move rfl) ?_
    refine S_stM (pre := []) (old := [_, _]) (post := []) (vs := [_, _]) sz25 rfl rfl rfl (by first | rfl | assumption) B2 rfl rfl ?_
    intro w16 m16 X16
    replace B2 := Blk.eq (ys := [_, _]) X16 rfl
    clear X16
    replace G := G.abv m16
    replace hA := hA0.grow G
    replace hB := hB0.grow G
    replace hC := hC0.grow G
    replace OC9 := OC9.md m16
    replace OR9 := OR9.md m16
    replace B1 := B1.md m16
    replace B11 := B11.md m16
    have zm16 := m16.size
    refine S_val (Y_assign rfl) ?_
    refine S_nl rfl rfl ?_
    refine th_n (hK9 _ _ ?_)
    clear hK9 K9
    refine wp_ret ?_
    refine ret_rct (cs := [_, _]) Try.underlying25 rfl sz25 rfl rfl rfl (B2.row (by rfl)) ?_  -- r4
    have hsv := sweepV_t hb1 hlen hsw
    have hfp : (fun i => (lessN u0 m0).testBit i && usedAt h.cells i) = sweepN h ms := by
      funext i
      rw [lessN_bit hU.1 hM.1, used_set hU, congrFun (set_in hM) i]
      unfold sweepN sweepP
      cases usedAt h.cells i <;> simp
    rw [hfp] at OC9 sub9
    have hdc : dropC h.cells (sweepN h ms) = dropC h.cells (sweepP ms) := (dropC_used va (sweepP ms)).symm
    exact ⟨AH, BH, _, cH, _, dH, rs9, by rw [hsv, hfp], by rw [hsv]; exact (dropC_len _ _).symm, by rw [hsv]; rfl, by rw [hsv]; exact OH.freed OX (OC9.cast hdc) (sub9.cast hdc) OR9 (fun k hk => by omega) (fun k hk => by omega), G⟩

set_option maxHeartbeats 400000 in
set_option maxRecDepth 20000 in
theorem spec_l11Drop_c (Pr P2 : Nat → Prop) (A B C : Option Addr) (h : LH) (ds : List Bool) (c d e : Nat) (w : World) (hA : RC Pr w A h.cells) (hB : R1 Pr w B (ints h.roots)) (hC : R1 P2 w C (bools ds)) (hz : hsize h ≤ 1048576) (hdl : ds.length ≤ h.cells.length) :
    Calls Try.prog 66 #[.agg #[.slice A h.cells.length c, .slice B h.roots.length d], .slice C ds.length e] w (Ret fun v w' => ∃ A1 B1 n1 c1 n2 c2 rs, v = .agg #[.slice A1 n1 c1, .slice B1 n2 c2] ∧ n1 = (dropH h (inB ds)).cells.length ∧ n2 = (dropH h (inB ds)).roots.length ∧ OH (fun i => w.heap.size ≤ i) w' 70 3 A1 B1 (dropH h (inB ds)) rs ∧ Grow w w') := by
 have hz1 := hsize_cells h
 have hz2 := hsize_roots h
 have hne : (70 : TypeId) ≠ 3 := by decide
 have hAl := hA.below
 have hBl := hB.below
 have hCl := hC.below
 refine enter Try.func66 rfl Try.ntmps66 (L := [_,_,_,_,_,_,_,_,_,_,_,_,_,_,_,_,_,_,_,_,_,_,_,_,_]) rfl ?_
 have G := Mod.refl No w
 have hAl0 := hAl
 have hBl0 := hBl
 have hCl0 := hCl
 refine wp_seq_k fun K1 hK1 => ?_
 refine Sb 25 rfl ?_  -- 0
 refine S_box (cs := [_, _]) rfl rfl ?_
 intro b1 w1 fb1 g1 B1
 have lb1 := B1.lt
 replace hAl := hAl.grow g1
 replace hBl := hBl.grow g1
 replace hCl := hCl.grow g1
 replace G := G.grow g1
 have zg1 := g1.size
 refine S_alloc (cs := [_, _]) zr25 rfl ?_
 intro b2 w2 fb2 g2 B2
 have lb2 := B2.lt
 replace hAl := hAl.grow g2
 replace hBl := hBl.grow g2
 replace hCl := hCl.grow g2
 replace G := G.grow g2
 replace B1 := B1.grow g2
 have zg2 := g2.size
 refine S_nl rfl rfl ?_
 refine th_n (hK1 _ _ ?_)
 clear hK1 K1
 refine wp_seq_k fun K2 hK2 => ?_
 refine Sb 25 rfl ?_  -- 1
 refine S_val (Y_loadS Try.underlying25 rfl sz25 rfl (B1.row (by rfl))) ?_  -- l1
 refine S_call rfl en77 (spec_l7Copy_c _ _ _ _ _ _ _ (by assumption) (by assumption) (by omega)) ?_  -- k1 spec.l7Copy
 rintro v3 w3 ⟨A3, B3, n13, c13, n23, c23, rs3, rfl, hn13, hn23, O3, g3⟩
 replace hAl := hAl.grow g3
 replace hBl := hBl.grow g3
 replace hCl := hCl.grow g3
 replace G := G.grow g3
 replace B1 := B1.grow g3
 replace B2 := B2.grow g3
 have zg3 := g3.size
 subst hn13
 subst hn23
 obtain ⟨AH, rfl⟩ : ∃ x, x = A3 := ⟨_, rfl⟩
 obtain ⟨BH, rfl⟩ : ∃ x, x = B3 := ⟨_, rfl⟩
 obtain ⟨cH, rfl⟩ : ∃ x, x = c13 := ⟨_, rfl⟩
 obtain ⟨dH, rfl⟩ : ∃ x, x = c23 := ⟨_, rfl⟩
 obtain ⟨rsH, rfl⟩ : ∃ x, x = rs3 := ⟨_, rfl⟩
 have OX := O3.lt
 refine S_alloc (cs := [_, _]) zr25 rfl ?_
 intro b4 w4 fb4 g4 B4
 have lb4 := B4.lt
 replace hAl := hAl.grow g4
 replace hBl := hBl.grow g4
 replace hCl := hCl.grow g4
 replace OX := OX.grow g4
 replace G := G.grow g4
 replace B1 := B1.grow g4
 replace B2 := B2.grow g4
 have zg4 := g4.size
 refine S_stM (pre := []) (old := [_, _]) (post := []) (vs := [_, _]) sz25 rfl rfl rfl (by first | rfl | assumption) B4 rfl rfl ?_
 intro w5 m5 X5
 replace B4 := Blk.eq (ys := [_, _]) X5 rfl
 clear X5
 replace G := G.abv m5
 replace hAl := hAl0.grow G
 replace hBl := hBl0.grow G
 replace hCl := hCl0.grow G
 replace OX := OX.md m5
 replace B1 := B1.md m5
 replace B2 := B2.md m5
 have zm5 := m5.size
 refine S_nl rfl rfl ?_
 refine th_n (hK2 _ _ ?_)
 clear hK2 K2
 refine wp_seq_k fun K3 hK3 => ?_
 refine wp_seq_k fun K4 hK4 => ?_
 refine Sb 25 rfl ?_  -- 2
 refine S_val (Y_assign rfl) ?_
 refine S_nl rfl rfl ?_
 refine th_n (hK4 _ _ ?_)
 clear hK4 K4
 refine wp_block ?_
 have OC1 := OX.split hne
 have OR1 := OX.roots
 replace OC1 : OC (fun i => b2 < i ∧ i < b4 ∧ ¬ (BH = some ⟨i, 0, none⟩ ∧ h.roots ≠ [])) w5 70 3 AH h.cells rsH := OC1.weak (fun i h => by have h1 := h.1; have h2 := h.2; dsimp only at h1; exact ⟨by omega, by omega, h2⟩)
 replace OR1 := OR1.weak (Pr' := fun i => b2 < i ∧ i < b4) (fun i h => by omega)
 go_loopw [6] (fun u6 wr => (∃ (k : Nat) (rs1 : List (Option Addr × Nat)), u6 = .int .i64 k ∧ k ≤ ds.length ∧ OC (fun i => b2 < i ∧ i < b4) wr 70 3 AH (dropK h.cells (inB ds) k) rs1 ∧ SubC (dropK h.cells (inB ds) k) rs1 h.cells rsH ∧ OI (fun i => b2 < i ∧ i < b4) wr 3 BH (ints h.roots)) ∧ Mod (fun i => b2 < i ∧ i < b4) w5 wr) (fun u6 wr => ds.length - (intOf u6).toNat)  -- L1
 case atStart =>
  refine ⟨?_, Mod.refl _ _⟩
  exact ⟨0, rsH, rfl, by omega, (OC1.weak (fun i h => ⟨h.1, h.2.1⟩)).cast (dropK_zero _ _).symm, (SubC.refl _ _).cast (dropK_zero _ _).symm, OR1⟩
 case round =>
  obtain ⟨w6, rfl⟩ : ∃ x : World, x = wr := ⟨_, rfl⟩
  obtain ⟨hrel, g6⟩ := hrel
  clear OC1
  clear OR1
  replace G := G.abv g6
  replace hAl := hAl0.grow G
  replace hBl := hBl0.grow G
  replace hCl := hCl0.grow G
  replace B1 := B1.md g6
  replace B2 := B2.md g6
  replace B4 := B4.md g6
  have zg6 := g6.size
  obtain ⟨k, rs1, rfl, hk, OC1, hsub, OR1⟩ := hrel
  have GL6 := g6
  refine wp_seq_k fun K5 hK5 => ?_
  refine wp_seq_k fun K6 hK6 => ?_
  refine Sb 25 rfl ?_  -- 3
  refine S_val (Y_move rfl) ?_
  refine S_val (Y_move rfl) ?_
  refine S_val (Y_len Try.underlying38 rfl) ?_
  refine S_val (Y_lss rfl rfl) ?_
  refine S_nl rfl rfl ?_
  refine th_n (hK6 _ _ ?_)
  clear hK6 K6
  refine S_if rfl (fun hb1 => ?_) (fun hb1 => ?_)  -- c1
  · -- c1T
   replace hb1 := nb_tt hb1
   have hk2 : k < ds.length := by omega
   have hk1 : k < h.cells.length := by omega
   obtain ⟨g3, o3, rfl, hp3, hc3⟩ := hCl.bool hk2
   obtain ⟨gq, post, rfl, hpq, Bq⟩ := OC1.blk (fun e => by have h9 := dropK_len h.cells (inB ds) k; rw [e] at h9; simp at h9; omega)
   have OR := OC1.rows
   have hlr := OR.len
   rw [dropK_len] at hlr
   have hcj := dropK_get (p := (inB ds)) hk1
   obtain ⟨r, hrr⟩ : ∃ r, rs1[k]? = some r := ⟨_, List.getElem?_eq_getElem (by omega)⟩
   have hpl := flat_pre (k := k) OR.len (by rw [dropK_len]; omega)
   rw [flat_split OR.len hcj hrr] at Bq
   have hpl2 : (flatC ((dropK h.cells (inB ds) k).take k) (rs1.take k)).length = 0 + k * 3 := by rw [hpl]; omega
   have lbq := Bq.lt
   have cc2 := CellsAt.of_blk Bq hpl2
   refine wp_skip ?_
   refine th_n (hK5 _ _ ?_)
   clear hK5 K5
   refine wp_seq_k fun K7 hK7 => ?_
   refine wp_block ?_
   refine wp_seq_k fun K8 hK8 => ?_
   refine Sb 25 rfl ?_  -- 5
   refine S_val (Y_move rfl) ?_
   refine S_val (Y_move rfl) ?_
   refine S_val (Y_index Try.underlying38 sz4 rfl rfl (by first | assumption | omega)) ?_
   refine S_val (Y_load Try.underlying4 rfl rfl (by first | assumption | exact cc2.at (by rfl) | exact B1.at (by rfl) | exact B2.at (by rfl) | exact B4.at (by rfl) | exact Bq.at (by rfl))) ?_  -- l2
   refine S_nl rfl rfl ?_
   refine th_n (hK8 _ _ ?_)
   clear hK8 K8
   refine S_if rfl (fun hb2 => ?_) (fun hb2 => ?_)  -- c2
   · -- c2T
    first | with_reducible (replace hb2 := nb_nt hb2) | with_reducible (replace hb2 := nb_tt hb2) | with_reducible (replace hb2 := nb_bt hb2) | skip
    have hpk : inB ds k = true := by rw [inB_at hk2]; exact hb2
    refine Sb 25 rfl ?_  -- 6
    refine S_val (Y_field Try.underlying25 rfl fz25_0 (by decide) rfl) ?_
    refine S_val (Y_load Try.underlying23 rfl rfl (B4.at (by rfl))) ?_  -- l3
    refine S_val (Y_move rfl) ?_
    refine S_val (Y_build (cs := [_, _, _]) zr70 pc70 rfl rfl) ?_
    refine S_val (Y_index Try.underlying23 sz70 rfl rfl (by first | assumption | omega)) ?_
    refine S_stM (pre := flatC ((dropK h.cells (inB ds) k).take k) (rs1.take k)) (old := [_, _, _]) (post := flatC ((dropK h.cells (inB ds) k).drop (k + 1)) (rs1.drop (k + 1)) ++ post) (vs := [_, _, _]) sz70 rfl rfl rfl rfl Bq (by rw [hpl]; show k * 3 = 0 + k * 3; omega) rfl ?_
    intro w7 m7 X7
    replace OR := (OR.modT Bq hne m7).free k (c := emptyC) rfl (none, 0)
    replace OR1 := OR1.modT Bq hne m7
    replace Bq := X7
    clear X7 cc2
    replace G := G.abv m7
    replace GL6 := GL6.trn m7
    replace hAl := hAl0.grow G
    replace hBl := hBl0.grow G
    replace hCl := hCl0.grow G
    replace B1 := B1.md m7
    replace B2 := B2.md m7
    replace B4 := B4.md m7
    have zm7 := m7.size
    refine S_nl rfl rfl ?_
    refine ib_n ?_
    refine th_n (hK7 _ _ ?_)
    clear hK7 K7
    refine Sb 25 rfl ?_  -- 4
    refine S_val (Y_move rfl) ?_
    refine S_val (Y_inc rfl rfl (by omega)) ?_
    refine S_val (Y_assign rfl) ?_
    refine S_nl rfl rfl ?_
    refine th_n ?_
    go_roundw  -- e1 of L1
    case rel =>
     refine ⟨?_, GL6⟩
     first | exact ⟨k + 1, rs1, rfl, by omega, OC1.cast (dropK_no hpk).symm, hsub.cast (dropK_no hpk).symm, OR1⟩ | exact ⟨k + 1, _, rfl, by omega, ⟨by rw [← dropK_yes hk1 hpk]; exact OR, fun _ => ⟨gq, post, rfl, hpq, Blk.eq Bq (by rw [← dropK_yes hk1 hpk]; exact flat_put (cs := dropK h.cells (inB ds) k) (rs := rs1) (c := emptyC) (r := (none, 0)) (by rw [dropK_len]; exact hlr) (by rw [dropK_len]; exact hk1))⟩⟩, (hsub.free k emptyC rfl (none, 0)).cast (dropK_yes hk1 hpk), OR1⟩
    case measure =>
     exact dec_nat (by omega)
   · -- c2F
    first | with_reducible (replace hb2 := nb_nf hb2) | with_reducible (replace hb2 := nb_tf hb2) | with_reducible (replace hb2 := nb_bf hb2) | skip
    have hpk : inB ds k = false := by rw [inB_at hk2]; exact hb2
    refine wp_skip ?_
    refine ib_n ?_
    refine th_n (hK7 _ _ ?_)
    clear hK7 K7
    refine Sb 25 rfl ?_  -- 4
    refine S_val (Y_move rfl) ?_
    refine S_val (Y_inc rfl rfl (by omega)) ?_
    refine S_val (Y_assign rfl) ?_
    refine S_nl rfl rfl ?_
    refine th_n ?_
    go_roundw  -- e2 of L1
    case rel =>
     refine ⟨?_, GL6⟩
     first | exact ⟨k + 1, rs1, rfl, by omega, OC1.cast (dropK_no hpk).symm, hsub.cast (dropK_no hpk).symm, OR1⟩ | exact ⟨k + 1, _, rfl, by omega, ⟨by rw [← dropK_yes hk1 hpk]; exact OR, fun _ => ⟨gq, post, rfl, hpq, Blk.eq Bq (by rw [← dropK_yes hk1 hpk]; exact flat_put (cs := dropK h.cells (inB ds) k) (rs := rs1) (c := emptyC) (r := (none, 0)) (by rw [dropK_len]; exact hlr) (by rw [dropK_len]; exact hk1))⟩⟩, (hsub.free k emptyC rfl (none, 0)).cast (dropK_yes hk1 hpk), OR1⟩
    case measure =>
     exact dec_nat (by omega)
  · -- c1F
   replace hb1 := nb_tf hb1
   refine wp_exit ?_
   refine th_x ?_
   try clear GL6
   refine th_x ?_
   refine ib_e ?_
   refine th_n (hK3 _ _ ?_)
   clear hK5 K5 hK3 K3
   refine wp_seq_k fun K9 hK9 => ?_
   refine Sb 25 rfl ?_  -- 7
   refine S_val (Y_loadS Try.underlying25 rfl sz25 rfl (B4.row (by rfl))) ?_  -- l4
   refine S_stM (pre := []) (old := [_, _]) (post := []) (vs := [_, _]) sz25 rfl rfl rfl (by first | rfl | assumption) B2 rfl rfl ?_
   intro w8 m8 X8
   replace B2 := Blk.eq (ys := [_, _]) X8 rfl
   clear X8
   replace G := G.abv m8
   replace hAl := hAl0.grow G
   replace hBl := hBl0.grow G
   replace hCl := hCl0.grow G
   replace OC1 := OC1.md m8
   replace OR1 := OR1.md m8
   replace B1 := B1.md m8
   replace B4 := B4.md m8
   have zm8 := m8.size
   refine S_nl rfl rfl ?_
   refine th_n (hK9 _ _ ?_)
   clear hK9 K9
   refine wp_ret ?_
   refine ret_rc (cs := [_, _]) Try.underlying25 rfl sz25 rfl rfl (B2.row (by rfl)) ?_  -- r1
   have hde : dropK h.cells (inB ds) k = dropC h.cells (inB ds) := dropC_ext (fun i hi => by
     by_cases hik : i < k
     · simp [hik]
     · have : inB ds i = false := by unfold inB; rw [List.getElem?_eq_none (by omega)]; rfl
       simp [this])
   exact ⟨_, _, _, _, _, _, rs1, rfl, (dropC_len _ _).symm, rfl, OH.freed OX (OC1.cast hde) (hsub.cast hde) OR1 (fun k hk => by omega) (fun k hk => by omega), G⟩

set_option maxHeartbeats 400000 in
set_option maxRecDepth 20000 in
theorem spec_SweepCells_c (Pr P2 : Nat → Prop) (A B C : Option Addr) (h : LH) (ms : List Bool) (c d e : Nat) (w : World) (hA : RC Pr w A h.cells) (hB : R1 Pr w B (ints h.roots)) (hC : R1 P2 w C (bools ms)) (hz : hsize h ≤ 1048576) (hmz : ms.length ≤ 1048576) :
    Calls Try.prog 25 #[.agg #[.slice A h.cells.length c, .slice B h.roots.length d], .slice C ms.length e] w (Ret fun v w' => ∃ A1 B1 n1 c1 n2 c2 rs, v = .tuple #[.agg #[.slice A1 n1 c1, .slice B1 n2 c2], .int .i64 (sweepV h ms).2] ∧ n1 = (sweepV h ms).1.cells.length ∧ n2 = (sweepV h ms).1.roots.length ∧ OH (fun i => w.heap.size ≤ i) w' 70 3 A1 B1 (sweepV h ms).1 rs ∧ Grow w w') := by
 have hz1 := hsize_cells h
 have hz2 := hsize_roots h
 have hne : (70 : TypeId) ≠ 3 := by decide
 refine enter Try.func25 rfl Try.ntmps25 (L := [_,_,_,_,_,_,_,_,_,_,_,_,_,_,_,_,_,_,_,_,_,_,_,_,_,_,_,_,_,_,_,_,_,_,_,_,_,_,_,_,_,_,_,_,_,_,_,_,_,_,_,_,_,_,_,_,_,_,_,_,_]) rfl ?_
 have G := Mod.refl No w
 have hA0 := hA
 have hB0 := hB
 have hC0 := hC
 refine wp_seq_k fun K1 hK1 => ?_
 refine Sb 61 rfl ?_  -- 0
 refine S_box (cs := [_, _]) rfl rfl ?_
 intro b1 w1 fb1 g1 B1
 have lb1 := B1.lt
 replace hA := hA.grow g1
 replace hB := hB.grow g1
 replace hC := hC.grow g1
 replace G := G.grow g1
 have zg1 := g1.size
 refine S_alloc (cs := [_, _]) zr25 rfl ?_
 intro b2 w2 fb2 g2 B2
 have lb2 := B2.lt
 replace hA := hA.grow g2
 replace hB := hB.grow g2
 replace hC := hC.grow g2
 replace G := G.grow g2
 replace B1 := B1.grow g2
 have zg2 := g2.size
 refine S_val (Y_assign rfl) ?_
 refine S_nl rfl rfl ?_
 refine th_n (hK1 _ _ ?_)
 clear hK1 K1
 refine wp_seq_k fun K2 hK2 => ?_
 refine wp_seq_k fun K3 hK3 => ?_
 refine Sb 61 rfl ?_  -- 1
 refine S_val (Y_loadS Try.underlying25 rfl sz25 rfl (B1.row (by rfl))) ?_  -- l1
 refine S_call rfl en56 (spec_HeapValid_c _ _ _ _ _ _ _ (by assumption) (by assumption) (by omega)) ?_  -- k1 spec.HeapValid
 rintro v3 w3 ⟨rfl, g3⟩
 replace hA := hA.grow g3
 replace hB := hB.grow g3
 replace hC := hC.grow g3
 replace G := G.grow g3
 replace B1 := B1.grow g3
 replace B2 := B2.grow g3
 have zg3 := g3.size
 refine S_val (Y_not rfl) ?_
 refine S_val (Y_move rfl) ?_
 refine S_g 13 rfl (fun hb1 => ?_) (fun hb1 => ?_)  -- g1
 · -- g1T
  first | with_reducible (replace hb1 := nb_nt hb1) | with_reducible (replace hb1 := nb_tt hb1) | with_reducible (replace hb1 := nb_bt hb1) | skip
  refine S_off rfl rfl ?_
  refine S_off rfl rfl ?_
  refine S_off rfl rfl ?_
  refine S_off rfl rfl ?_
  refine S_off rfl rfl ?_
  refine S_off rfl rfl ?_
  refine S_val (Y_pickT rfl rfl) ?_
  refine S_nl rfl rfl ?_
  refine th_n (hK3 _ _ ?_)
  clear hK3 K3
  refine S_ifT rfl ?_
  refine wp_seq_k fun K4 hK4 => ?_
  refine Sb 61 rfl ?_  -- 2
  refine S_val (Y_build (cs := [_, _]) zr25 pc25 rfl rfl) ?_
  refine S_stM (pre := []) (old := [_, _]) (post := []) (vs := [_, _]) sz25 rfl rfl rfl (by first | rfl | assumption) B2 rfl rfl ?_
  intro w4 m4 X4
  replace B2 := Blk.eq (ys := [_, _]) X4 rfl
  clear X4
  replace G := G.abv m4
  replace hA := hA0.grow G
  replace hB := hB0.grow G
  replace hC := hC0.grow G
  replace B1 := B1.md m4
  have zm4 := m4.size
  refine S_val (Y_assign rfl) ?_
  refine S_nl rfl rfl ?_
  refine th_n (hK4 _ _ ?_)
  clear hK4 K4
  refine wp_ret ?_
  refine th_r ?_
  clear hK2 K2
  refine ret_rct (cs := [_, _]) Try.underlying25 rfl sz25 rfl rfl rfl (B2.row (by rfl)) ?_  -- r1
  have hsv := sweepV_f1 (ms := ms) hb1
  exact ⟨_, _, _, _, _, _, [], by rw [hsv], by rw [hsv]; rfl, by rw [hsv]; rfl, by rw [hsv]; exact OH.nil _ _ _ _ _ _, G⟩
 · -- g1F
  first | with_reducible (replace hb1 := nb_nf hb1) | with_reducible (replace hb1 := nb_tf hb1) | with_reducible (replace hb1 := nb_bf hb1) | skip
  have va := valid_iff.1 hb1
  have hl := va.leads
  have h40 := va.le
  have hr4 := va.roots4
  refine S_on rfl rfl ?_
  refine S_val (Y_move rfl) ?_
  refine S_on rfl rfl ?_
  refine S_val (Y_len Try.underlying38 rfl) ?_
  refine S_on rfl rfl ?_
  refine S_val (Y_field Try.underlying25 rfl fz25_0 (by decide) rfl) ?_
  refine S_on rfl rfl ?_
  refine S_val (Y_load Try.underlying23 rfl rfl (B1.at (by rfl))) ?_  -- l2
  refine S_on rfl rfl ?_
  refine S_val (Y_len Try.underlying23 rfl) ?_
  refine S_on rfl rfl ?_
  refine S_val (Y_neq rfl rfl) ?_
  refine S_val (Y_pickF rfl rfl) ?_
  refine S_nl rfl rfl ?_
  refine th_n (hK3 _ _ ?_)
  clear hK3 K3
  refine S_if rfl (fun hb2 => ?_) (fun hb2 => ?_)  -- c1
  · -- c1T
   first | with_reducible (replace hb2 := nb_nt hb2) | with_reducible (replace hb2 := nb_tt hb2) | with_reducible (replace hb2 := nb_bt hb2) | skip
   refine wp_seq_k fun K5 hK5 => ?_
   refine Sb 61 rfl ?_  -- 2
   refine S_val (Y_build (cs := [_, _]) zr25 pc25 rfl rfl) ?_
   refine S_stM (pre := []) (old := [_, _]) (post := []) (vs := [_, _]) sz25 rfl rfl rfl (by first | rfl | assumption) B2 rfl rfl ?_
   intro w5 m5 X5
   replace B2 := Blk.eq (ys := [_, _]) X5 rfl
   clear X5
   replace G := G.abv m5
   replace hA := hA0.grow G
   replace hB := hB0.grow G
   replace hC := hC0.grow G
   replace B1 := B1.md m5
   have zm5 := m5.size
   refine S_val (Y_assign rfl) ?_
   refine S_nl rfl rfl ?_
   refine th_n (hK5 _ _ ?_)
   clear hK5 K5
   refine wp_ret ?_
   refine th_r ?_
   clear hK2 K2
   refine ret_rct (cs := [_, _]) Try.underlying25 rfl sz25 rfl rfl rfl (B2.row (by rfl)) ?_  -- r2
   have hsv := sweepV_f2 (h := h) (ms := ms) (by omega)
   exact ⟨_, _, _, _, _, _, [], by rw [hsv], by rw [hsv]; rfl, by rw [hsv]; rfl, by rw [hsv]; exact OH.nil _ _ _ _ _ _, G⟩
  · -- c1F
   first | with_reducible (replace hb2 := nb_nf hb2) | with_reducible (replace hb2 := nb_tf hb2) | with_reducible (replace hb2 := nb_bf hb2) | skip
   have hlen : ms.length = h.cells.length := by omega
   refine wp_skip ?_
   refine th_n (hK2 _ _ ?_)
   clear hK2 K2
   refine wp_seq_k fun K6 hK6 => ?_
   refine Sb 61 rfl ?_  -- 3
   refine S_bs0 Try.underlying38 sz4 ?_
   intro b6 w6 fb6 g6 B6
   have lb6 := B6.lt
   replace hA := hA.grow g6
   replace hB := hB.grow g6
   replace hC := hC.grow g6
   replace G := G.grow g6
   replace B1 := B1.grow g6
   replace B2 := B2.grow g6
   have zg6 := g6.size
   refine S_val (Y_assign rfl) ?_
   refine S_nl rfl rfl ?_
   refine th_n (hK6 _ _ ?_)
   clear hK6 K6
   refine wp_seq_k fun K7 hK7 => ?_
   refine Sb 61 rfl ?_  -- 4
   refine S_val (Y_assign rfl) ?_
   refine S_nl rfl rfl ?_
   refine th_n (hK7 _ _ ?_)
   clear hK7 K7
   refine wp_seq_k fun K8 hK8 => ?_
   refine wp_seq_k fun K9 hK9 => ?_
   refine Sb 61 rfl ?_  -- 5
   refine S_val (Y_assign rfl) ?_
   refine S_nl rfl rfl ?_
   refine th_n (hK9 _ _ ?_)
   clear hK9 K9
   refine wp_block ?_
   obtain ⟨wz, hwz⟩ : ∃ x, x = w6.heap.size := ⟨_, rfl⟩
   have O1 : OW (fun i => i = b6 ∨ wz ≤ i) w6 4 1 (some ⟨b6, 0, none⟩) 0 0 (bools []) := OW.of_blk B6 rfl (by decide) (.inl rfl)
   go_loopw [6, 7, 8] (fun u6 u7 u8 wr => (∃ (k cap : Nat) (A1 : Option Addr), u8 = .int .i64 k ∧ u7 = .int .i64 ((cntP (sweepN h ms) k : Nat) : Int) ∧ u6 = .slice A1 k cap ∧ k ≤ ms.length ∧ OW (fun i => i = b6 ∨ wz ≤ i) wr 4 1 A1 k cap (bools ((ms.take k).map (fun b => !b)))) ∧ Mod (fun i => i = b6 ∨ wz ≤ i) w6 wr) (fun u6 u7 u8 wr => ms.length - (intOf u8).toNat)  -- L1
   case atStart =>
    refine ⟨?_, Mod.refl _ _⟩
    exact ⟨0, 0, _, rfl, rfl, rfl, by omega, O1⟩
   case round =>
    obtain ⟨w7, rfl⟩ : ∃ x : World, x = wr := ⟨_, rfl⟩
    obtain ⟨hrel, g7⟩ := hrel
    clear O1
    replace G := G.abv g7
    replace hA := hA0.grow G
    replace hB := hB0.grow G
    replace hC := hC0.grow G
    replace B1 := B1.md g7
    replace B2 := B2.md g7
    have zg7 := g7.size
    obtain ⟨k, cap1, A1, rfl, rfl, rfl, hk, O1⟩ := hrel
    have hcl := cntP_le (sweepN h ms) k
    have GL7 := g7
    refine wp_seq_k fun K10 hK10 => ?_
    refine wp_seq_k fun K11 hK11 => ?_
    refine Sb 61 rfl ?_  -- 6
    refine S_val (Y_move rfl) ?_
    refine S_val (Y_move rfl) ?_
    refine S_val (Y_len Try.underlying38 rfl) ?_
    refine S_val (Y_lss rfl rfl) ?_
    refine S_nl rfl rfl ?_
    refine th_n (hK11 _ _ ?_)
    clear hK11 K11
    refine S_if rfl (fun hb3 => ?_) (fun hb3 => ?_)  -- c2
    · -- c2T
     replace hb3 := nb_tt hb3
     have hk1 : k < ms.length := by omega
     have hk2 : k < h.cells.length := by omega
     obtain ⟨g3, o3, rfl, hp3, hc3⟩ := hC.bool hk1
     obtain ⟨g2, o2, E2, d2, rfl, hp2, cc20, hE20⟩ := hA0.cell hk2
     have cc2 := cc20.grow G
     have hE2 := hE20.grow G
     have htk := List.take_succ_eq_append_getElem hk1
     refine wp_skip ?_
     refine th_n (hK10 _ _ ?_)
     clear hK10 K10
     refine wp_seq_k fun K12 hK12 => ?_
     refine wp_block ?_
     refine wp_seq_k fun K13 hK13 => ?_
     refine Sb 61 rfl ?_  -- 8
     refine S_val (Y_move rfl) ?_
     refine S_val (Y_move rfl) ?_
     refine S_val (Y_move rfl) ?_
     refine S_val (Y_index Try.underlying38 sz4 rfl rfl (by first | assumption | omega)) ?_
     refine S_val (Y_load Try.underlying4 rfl rfl (by first | assumption | exact cc2.at (by rfl) | exact B1.at (by rfl) | exact B2.at (by rfl))) ?_  -- l3
     refine S_val (Y_not rfl) ?_
     refine S_bs1 (cs := [_]) Try.underlying38 zr4 sz4 rfl rfl rfl ?_
     intro b8 w8 fb8 g8 B8
     have lb8 := B8.lt
     replace hA := hA.grow g8
     replace hB := hB.grow g8
     replace hC := hC.grow g8
     replace cc2 := cc2.grow g8
     replace hE2 := hE2.grow g8
     replace O1 := O1.grow g8
     replace G := G.grow g8
     replace GL7 := GL7.grow g8
     replace B1 := B1.grow g8
     replace B2 := B2.grow g8
     have zg8 := g8.size
     refine S_app Try.underlying38 zr4 sz4 by4 rfl rfl O1 rfl (Src.blk B8) (by simp [Value.oneCell']) (by omega) (Pr' := fun i => i = b6 ∨ wz ≤ i) (fun i hi => hi) (by omega) ?_
     intro A9 cap9 w9 X9 m9
     replace O1 := X9
     rw [bools_app] at O1
     clear X9
     replace G := G.abv m9
     replace GL7 := GL7.trn m9
     replace hA := hA0.grow G
     replace hB := hB0.grow G
     replace hC := hC0.grow G
     replace cc2 := cc20.grow G
     replace hE2 := hE20.grow G
     replace B1 := B1.md m9
     replace B2 := B2.md m9
     have zm9 := m9.size
     obtain ⟨g4, o4, e4, hp4, hc4⟩ := hC.bool hk1
     cases e4
     refine S_val (Y_assign rfl) ?_
     refine S_nl rfl rfl ?_
     refine th_n (hK13 _ _ ?_)
     clear hK13 K13
     refine wp_seq_k fun K14 hK14 => ?_
     refine Sb 61 rfl ?_  -- 9
     refine S_val (Y_move rfl) ?_
     refine S_val (Y_move rfl) ?_
     refine S_val (Y_index Try.underlying38 sz4 rfl rfl (by first | assumption | omega)) ?_
     refine S_val (Y_load Try.underlying4 rfl rfl (by first | assumption | exact cc2.at (by rfl) | exact B1.at (by rfl) | exact B2.at (by rfl))) ?_  -- l4
     refine S_val (Y_not rfl) ?_
     refine S_val (Y_move rfl) ?_
     refine S_g 42 rfl (fun hb4 => ?_) (fun hb4 => ?_)  -- g2
     · -- g2T
      first | with_reducible (replace hb4 := nb_nt hb4) | with_reducible (replace hb4 := nb_tt hb4) | with_reducible (replace hb4 := nb_bt hb4) | skip
      refine S_on rfl rfl ?_
      refine S_val (Y_field Try.underlying25 rfl fz25_0 (by decide) rfl) ?_
      refine S_on rfl rfl ?_
      refine S_val (Y_load Try.underlying23 rfl rfl (B1.at (by rfl))) ?_  -- l5
      refine S_on rfl rfl ?_
      refine S_val (Y_move rfl) ?_
      refine S_on rfl rfl ?_
      refine S_val (Y_index Try.underlying23 sz70 rfl rfl (by first | assumption | omega)) ?_
      refine S_on rfl rfl ?_
      refine S_val (Y_field Try.underlying70 rfl fz70_0 (by decide) rfl) ?_
      refine S_on rfl rfl ?_
      refine S_val (Y_load Try.underlying4 rfl rfl (by first | assumption | exact cc2.at (by rfl) | exact B1.at (by rfl) | exact B2.at (by rfl))) ?_  -- l6
      refine S_val (Y_pickT rfl rfl) ?_
      refine S_nl rfl rfl ?_
      refine th_n (hK14 _ _ ?_)
      clear hK14 K14
      refine S_if rfl (fun hb5 => ?_) (fun hb5 => ?_)  -- c3
      · -- c3T
       first | with_reducible (replace hb5 := nb_nt hb5) | with_reducible (replace hb5 := nb_tt hb5) | with_reducible (replace hb5 := nb_bt hb5) | skip
       have hpn : sweepN h ms k = true := by unfold sweepN sweepP; rw [inB_at hk1, hb4, usedAt_at hk2, hb5]; rfl
       refine Sb 61 rfl ?_  -- 10
       refine S_val (Y_move rfl) ?_
       refine S_val (Y_inc rfl rfl (by omega)) ?_
       refine S_val (Y_assign rfl) ?_
       refine S_nl rfl rfl ?_
       refine ib_n ?_
       refine th_n (hK12 _ _ ?_)
       clear hK12 K12
       refine Sb 61 rfl ?_  -- 7
       refine S_val (Y_move rfl) ?_
       refine S_val (Y_inc rfl rfl (by omega)) ?_
       refine S_val (Y_assign rfl) ?_
       refine S_nl rfl rfl ?_
       refine th_n ?_
       go_roundw  -- e1 of L1
       case rel =>
        refine ⟨?_, GL7⟩
        first | exact ⟨k + 1, _, _, rfl, by rw [cntP_no hpn], rfl, by omega, by rw [htk, List.map_append]; exact O1⟩ | exact ⟨k + 1, _, _, rfl, by rw [cntP_yes hpn], rfl, by omega, by rw [htk, List.map_append]; exact O1⟩
       case measure =>
        exact dec_nat (by omega)
      · -- c3F
       first | with_reducible (replace hb5 := nb_nf hb5) | with_reducible (replace hb5 := nb_tf hb5) | with_reducible (replace hb5 := nb_bf hb5) | skip
       have hpn : sweepN h ms k = false := by unfold sweepN sweepP; rw [usedAt_at hk2, hb5]; rfl
       refine wp_skip ?_
       refine ib_n ?_
       refine th_n (hK12 _ _ ?_)
       clear hK12 K12
       refine Sb 61 rfl ?_  -- 7
       refine S_val (Y_move rfl) ?_
       refine S_val (Y_inc rfl rfl (by omega)) ?_
       refine S_val (Y_assign rfl) ?_
       refine S_nl rfl rfl ?_
       refine th_n ?_
       go_roundw  -- e2 of L1
       case rel =>
        refine ⟨?_, GL7⟩
        first | exact ⟨k + 1, _, _, rfl, by rw [cntP_no hpn], rfl, by omega, by rw [htk, List.map_append]; exact O1⟩ | exact ⟨k + 1, _, _, rfl, by rw [cntP_yes hpn], rfl, by omega, by rw [htk, List.map_append]; exact O1⟩
       case measure =>
        exact dec_nat (by omega)
     · -- g2F
      first | with_reducible (replace hb4 := nb_nf hb4) | with_reducible (replace hb4 := nb_tf hb4) | with_reducible (replace hb4 := nb_bf hb4) | skip
      have hpn : sweepN h ms k = false := by unfold sweepN sweepP; rw [inB_at hk1, hb4]; simp
      refine S_off rfl rfl ?_
      refine S_off rfl rfl ?_
      refine S_off rfl rfl ?_
      refine S_off rfl rfl ?_
      refine S_off rfl rfl ?_
      refine S_off rfl rfl ?_
      refine S_val (Y_pickF rfl rfl) ?_
      refine S_nl rfl rfl ?_
      refine th_n (hK14 _ _ ?_)
      clear hK14 K14
      refine S_ifF rfl ?_
      refine wp_skip ?_
      refine ib_n ?_
      refine th_n (hK12 _ _ ?_)
      clear hK12 K12
      refine Sb 61 rfl ?_  -- 7
      refine S_val (Y_move rfl) ?_
      refine S_val (Y_inc rfl rfl (by omega)) ?_
      refine S_val (Y_assign rfl) ?_
      refine S_nl rfl rfl ?_
      refine th_n ?_
      go_roundw  -- e3 of L1
      case rel =>
       refine ⟨?_, GL7⟩
       first | exact ⟨k + 1, _, _, rfl, by rw [cntP_no hpn], rfl, by omega, by rw [htk, List.map_append]; exact O1⟩ | exact ⟨k + 1, _, _, rfl, by rw [cntP_yes hpn], rfl, by omega, by rw [htk, List.map_append]; exact O1⟩
      case measure =>
       exact dec_nat (by omega)
    · -- c2F
     replace hb3 := nb_tf hb3
     rw [List.take_of_length_le (by omega)] at O1
     have hkq : k = (ms.map (fun b => !b)).length := by rw [List.length_map]; omega
     subst hkq
     replace O1 := O1.lt
     have hD := O1.r1
     refine wp_exit ?_
     refine th_x ?_
     try clear GL7
     refine th_x ?_
     refine ib_e ?_
     refine th_n (hK8 _ _ ?_)
     clear hK10 K10 hK8 K8
     refine wp_seq_k fun K15 hK15 => ?_
     refine Sb 61 rfl ?_  -- 11
     refine S_val (Y_loadS Try.underlying25 rfl sz25 rfl (B1.row (by rfl))) ?_  -- l7
     refine S_val (Y_move rfl) ?_
     refine S_call rfl en66 (spec_l11Drop_c _ _ _ _ _ _ (ms.map (fun b => !b)) _ _ _ _ (by assumption) (by assumption) hD (by omega) (by rw [List.length_map]; omega)) ?_  -- k2 spec.l11Drop
     rintro v10 w10 ⟨A10, B10, n110, c110, n210, c210, rs10, rfl, hn110, hn210, O10, g10⟩
     replace hA := hA.grow g10
     replace hB := hB.grow g10
     replace hC := hC.grow g10
     replace O1 := O1.grow g10
     replace hD := hD.grow g10
     replace G := G.grow g10
     replace B1 := B1.grow g10
     replace B2 := B2.grow g10
     have zg10 := g10.size
     rw [drop_not hlen] at hn110 hn210 O10
     subst hn110
     subst hn210
     obtain ⟨AH, rfl⟩ : ∃ x, x = A10 := ⟨_, rfl⟩
     obtain ⟨BH, rfl⟩ : ∃ x, x = B10 := ⟨_, rfl⟩
     obtain ⟨cH, rfl⟩ : ∃ x, x = c110 := ⟨_, rfl⟩
     obtain ⟨dH, rfl⟩ : ∃ x, x = c210 := ⟨_, rfl⟩
     obtain ⟨rsH, rfl⟩ : ∃ x, x = rs10 := ⟨_, rfl⟩
     have OX := O10.lt
     have hXA := OX.rc
     have hXB := OX.r1
     refine S_alloc (cs := [_, _]) zr25 rfl ?_
     intro b11 w11 fb11 g11 B11
     have lb11 := B11.lt
     replace hA := hA.grow g11
     replace hB := hB.grow g11
     replace hC := hC.grow g11
     replace O1 := O1.grow g11
     replace hD := hD.grow g11
     replace OX := OX.grow g11
     replace hXA := hXA.grow g11
     replace hXB := hXB.grow g11
     replace G := G.grow g11
     replace B1 := B1.grow g11
     replace B2 := B2.grow g11
     have zg11 := g11.size
     refine S_stM (pre := []) (old := [_, _]) (post := []) (vs := [_, _]) sz25 rfl rfl rfl (by first | rfl | assumption) B11 rfl rfl ?_
     intro w12 m12 X12
     replace B11 := Blk.eq (ys := [_, _]) X12 rfl
     clear X12
     replace G := G.abv m12
     replace hA := hA0.grow G
     replace hB := hB0.grow G
     replace hC := hC0.grow G
     replace O1 := O1.md m12
     replace hD := hD.md m12
     replace OX := OX.md m12
     replace hXA := hXA.md m12
     replace hXB := hXB.md m12
     replace B1 := B1.md m12
     replace B2 := B2.md m12
     have zm12 := m12.size
     refine S_nl rfl rfl ?_
     refine th_n (hK15 _ _ ?_)
     clear hK15 K15
     refine wp_seq_k fun K16 hK16 => ?_
     refine wp_seq_k fun K17 hK17 => ?_
     refine Sb 61 rfl ?_  -- 12
     refine S_val (Y_loadS Try.underlying25 rfl sz25 rfl (B11.row (by rfl))) ?_  -- l8
     refine S_call rfl en56 (spec_HeapValid_c _ _ _ _ _ _ _ hXA hXB (by have := drop_small va (sweepP ms); omega)) ?_  -- k3 spec.HeapValid
     rintro v13 w13 ⟨rfl, g13⟩
     replace hA := hA.grow g13
     replace hB := hB.grow g13
     replace hC := hC.grow g13
     replace O1 := O1.grow g13
     replace hD := hD.grow g13
     replace OX := OX.grow g13
     replace hXA := hXA.grow g13
     replace hXB := hXB.grow g13
     replace G := G.grow g13
     replace B1 := B1.grow g13
     replace B2 := B2.grow g13
     replace B11 := B11.grow g13
     have zg13 := g13.size
     refine S_val (Y_not rfl) ?_
     refine S_nl rfl rfl ?_
     refine th_n (hK17 _ _ ?_)
     clear hK17 K17
     refine S_if rfl (fun hb4 => ?_) (fun hb4 => ?_)  -- c4
     · -- c4T
      first | with_reducible (replace hb4 := nb_nt hb4) | with_reducible (replace hb4 := nb_tt hb4) | with_reducible (replace hb4 := nb_bt hb4) | skip
      refine wp_seq_k fun K18 hK18 => ?_
      refine Sb 61 rfl ?_  -- 13
      refine S_val (Y_build (cs := [_, _]) zr25 pc25 rfl rfl) ?_
      refine S_stM (pre := []) (old := [_, _]) (post := []) (vs := [_, _]) sz25 rfl rfl rfl (by first | rfl | assumption) B2 rfl rfl ?_
      intro w14 m14 X14
      replace B2 := Blk.eq (ys := [_, _]) X14 rfl
      clear X14
      replace G := G.abv m14
      replace hA := hA0.grow G
      replace hB := hB0.grow G
      replace hC := hC0.grow G
      replace O1 := O1.md m14
      replace hD := hD.md m14
      replace OX := OX.md m14
      replace hXA := hXA.md m14
      replace hXB := hXB.md m14
      replace B1 := B1.md m14
      replace B11 := B11.md m14
      have zm14 := m14.size
      refine S_val (Y_assign rfl) ?_
      refine S_nl rfl rfl ?_
      refine th_n (hK18 _ _ ?_)
      clear hK18 K18
      refine wp_ret ?_
      refine th_r ?_
      clear hK16 K16
      refine ret_rct (cs := [_, _]) Try.underlying25 rfl sz25 rfl rfl rfl (B2.row (by rfl)) ?_  -- r3
      have hsv := sweepV_f3 hb4
      exact ⟨_, _, _, _, _, _, [], by rw [hsv], by rw [hsv]; rfl, by rw [hsv]; rfl, by rw [hsv]; exact OH.nil _ _ _ _ _ _, G⟩
     · -- c4F
      first | with_reducible (replace hb4 := nb_nf hb4) | with_reducible (replace hb4 := nb_tf hb4) | with_reducible (replace hb4 := nb_bf hb4) | skip
      refine wp_skip ?_
      refine th_n (hK16 _ _ ?_)
      clear hK16 K16
      refine wp_seq_k fun K19 hK19 => ?_
      refine Sb 61 rfl ?_  -- 14
      refine S_val (Y_loadS Try.underlying25 rfl sz25 rfl (B11.row (by rfl))) ?_  -- l9
      refine S_val (Y_move rfl) ?_
      refine S_stM (pre := []) (old := [_, _]) (post := []) (vs := [_, _]) sz25 rfl rfl rfl (by first | rfl | assumption) B2 rfl rfl ?_
      intro w15 m15 X15
      replace B2 := Blk.eq (ys := [_, _]) X15 rfl
      clear X15
      replace G := G.abv m15
      replace hA := hA0.grow G
      replace hB := hB0.grow G
      replace hC := hC0.grow G
      replace O1 := O1.md m15
      replace hD := hD.md m15
      replace OX := OX.md m15
      replace hXA := hXA.md m15
      replace hXB := hXB.md m15
      replace B1 := B1.md m15
      replace B11 := B11.md m15
      have zm15 := m15.size
      refine S_val (Y_assign rfl) ?_
      refine S_nl rfl rfl ?_
      refine th_n (hK19 _ _ ?_)
      clear hK19 K19
      refine wp_ret ?_
      refine ret_rct (cs := [_, _]) Try.underlying25 rfl sz25 rfl rfl rfl (B2.row (by rfl)) ?_  -- r4
      have hsv := sweepV_t hb1 hlen hb4
      exact ⟨AH, BH, _, cH, _, dH, rsH, by rw [hsv, List.length_map, hlen], by rw [hsv], by rw [hsv], by rw [hsv]; exact OX.weak (fun i hi => by omega), G⟩

set_option maxHeartbeats 400000 in
set_option maxRecDepth 20000 in
theorem impl_CollectSweep_c (Pr : Nat → Prop) (A B : Option Addr) (h : LH) (c d : Nat) (w : World) (hA : RC Pr w A h.cells) (hB : R1 Pr w B (ints h.roots)) (hz : hsize h ≤ 1048576) :
    Calls Try.prog 36 #[.agg #[.slice A h.cells.length c, .slice B h.roots.length d]] w (Ret fun v w' => ∃ A1 B1 n1 c1 n2 c2 rs, v = .tuple #[.agg #[.slice A1 n1 c1, .slice B1 n2 c2], .int .i64 (sweepV h (reachV h)).2] ∧ n1 = (sweepV h (reachV h)).1.cells.length ∧ n2 = (sweepV h (reachV h)).1.roots.length ∧ OH (fun i => w.heap.size ≤ i) w' 70 3 A1 B1 (sweepV h (reachV h)).1 rs ∧ Grow w w') := by
 have hz1 := hsize_cells h
 have hz2 := hsize_roots h
 have hne : (70 : TypeId) ≠ 3 := by decide
 have hrl := reachV_le h
 refine enter Try.func36 rfl Try.ntmps36 (L := [_,_,_,_,_,_,_,_,_,_]) rfl ?_
 have G := Mod.refl No w
 have hA0 := hA
 have hB0 := hB
 refine wp_seq_k fun K1 hK1 => ?_
 refine Sb 10 rfl ?_  -- 0
 refine S_box (cs := [_, _]) rfl rfl ?_
 intro b1 w1 fb1 g1 B1
 have lb1 := B1.lt
 replace hA := hA.grow g1
 replace hB := hB.grow g1
 replace G := G.grow g1
 have zg1 := g1.size
 refine S_alloc (cs := [_, _]) zr25 rfl ?_
 intro b2 w2 fb2 g2 B2
 have lb2 := B2.lt
 replace hA := hA.grow g2
 replace hB := hB.grow g2
 replace G := G.grow g2
 replace B1 := B1.grow g2
 have zg2 := g2.size
 refine S_val (Y_assign rfl) ?_
 refine S_nl rfl rfl ?_
 refine th_n (hK1 _ _ ?_)
 clear hK1 K1
 refine wp_seq_k fun K2 hK2 => ?_
 refine D_start 8 10 (fun w => Mod (fun i => i = b2) w) follows rfl rfl ?_  -- d1 r1
 intro w3 g3
 replace hA := hA.grow g3
 replace hB := hB.grow g3
 replace G := G.grow g3
 replace B1 := B1.grow g3
 replace B2 := B2.grow g3
 have zg3 := g3.size
 have GS3 := Mod.refl (fun i => i = b2) w3
 refine Dq (i := 0) rfl GS3 (fun _ hs => Y_loadS Try.underlying25 rfl sz25 rfl (by first | exact CellsAt.mod (B1.row (by rfl)) hs (by intro h; first | omega | (dsimp only at h; omega)))) ?_
 refine Dq (i := 1) rfl GS3 (fun _ hs => Y_loadS Try.underlying25 rfl sz25 rfl (by first | exact CellsAt.mod (B1.row (by rfl)) hs (by intro h; first | omega | (dsimp only at h; omega)))) ?_
 refine D_1 (i := 2) (by kernel_rfl) ?_
 refine E_call rfl rfl en79 (impl_Reachable_c _ _ _ _ _ _ _ (by assumption) (by assumption) (by omega)) ?_  -- k1 impl.Reachable
 rintro v4 w4 ⟨A4, q4, cap4, rfl, hq4, O4, g4⟩
 replace hA := hA.grow g4
 replace hB := hB.grow g4
 replace G := G.grow g4
 replace GS3 := GS3.grow g4
 replace B1 := B1.grow g4
 replace B2 := B2.grow g4
 have zg4 := g4.size
 subst hq4
 have OR := O4.lt
 have hR := OR.r1
 refine ⟨GS3, ?_⟩
 refine D_1 (i := 3) (by kernel_rfl) ?_
 refine E_call rfl rfl en27 (impl_SweepCells_c _ _ _ _ _ _ (reachV h) _ _ _ _ (by assumption) (by assumption) hR (by omega) (by omega)) ?_  -- k2 impl.SweepCells
 rintro v5 w5 ⟨A5, B5, n15, c15, n25, c25, rs5, rfl, hn15, hn25, O5, g5⟩
 replace hA := hA.grow g5
 replace hB := hB.grow g5
 replace hR := hR.grow g5
 replace G := G.grow g5
 replace GS3 := GS3.grow g5
 replace B1 := B1.grow g5
 replace B2 := B2.grow g5
 have zg5 := g5.size
 subst hn15
 subst hn25
 obtain ⟨AH, rfl⟩ : ∃ x, x = A5 := ⟨_, rfl⟩
 obtain ⟨BH, rfl⟩ : ∃ x, x = B5 := ⟨_, rfl⟩
 obtain ⟨cH, rfl⟩ : ∃ x, x = c15 := ⟨_, rfl⟩
 obtain ⟨dH, rfl⟩ : ∃ x, x = c25 := ⟨_, rfl⟩
 obtain ⟨rsH, rfl⟩ : ∃ x, x = rs5 := ⟨_, rfl⟩
 have OX := O5.lt
 refine ⟨GS3, ?_⟩
 refine Dq (i := 4) rfl GS3 (fun _ _ => Y_extract rfl rfl) ?_
 refine Dq (i := 5) rfl GS3 (fun _ _ => Y_extract rfl rfl) ?_
 refine D_1 (i := 6) (by kernel_rfl) ?_
 refine E_stM (pre := []) (old := [_, _]) (post := []) (vs := [_, _]) (i := 6) rfl sz25 rfl rfl rfl (by first | rfl | assumption) B2 rfl rfl ?_
 intro w6 m6 X6
 replace B2 := Blk.eq (ys := [_, _]) X6 rfl
 clear X6
 replace G := G.abv m6
 replace GS3 := GS3.trn m6
 replace hA := hA0.grow G
 replace hB := hB0.grow G
 replace hR := hR.md m6
 replace OX := OX.md m6
 replace B1 := B1.md m6
 have zm6 := m6.size
 refine ⟨GS3, ?_⟩
 refine Dq (i := 7) rfl GS3 (fun _ _ => Y_assign rfl) ?_
 refine D_en (by kernel_rfl) rfl rfl ?_
 refine th_n (hK2 _ _ ?_)
 clear hK2 K2
 refine wp_ret ?_
 refine ret_rct (cs := [_, _]) Try.underlying25 rfl sz25 rfl rfl rfl (B2.row (by rfl)) ?_  -- r1
 exact ⟨_, _, _, _, _, _, _, rfl, rfl, rfl, OX.weak (fun i hi => by omega), G⟩

set_option maxHeartbeats 400000 in
set_option maxRecDepth 20000 in
theorem spec_CollectSweep_c (Pr : Nat → Prop) (A B : Option Addr) (h : LH) (c d : Nat) (w : World) (hA : RC Pr w A h.cells) (hB : R1 Pr w B (ints h.roots)) (hz : hsize h ≤ 1048576) :
    Calls Try.prog 35 #[.agg #[.slice A h.cells.length c, .slice B h.roots.length d]] w (Ret fun v w' => ∃ A1 B1 n1 c1 n2 c2 rs, v = .tuple #[.agg #[.slice A1 n1 c1, .slice B1 n2 c2], .int .i64 (sweepV h (reachV h)).2] ∧ n1 = (sweepV h (reachV h)).1.cells.length ∧ n2 = (sweepV h (reachV h)).1.roots.length ∧ OH (fun i => w.heap.size ≤ i) w' 70 3 A1 B1 (sweepV h (reachV h)).1 rs ∧ Grow w w') := by
 have hz1 := hsize_cells h
 have hz2 := hsize_roots h
 have hne : (70 : TypeId) ≠ 3 := by decide
 have hrl := reachV_le h
 refine enter Try.func35 rfl Try.ntmps35 (L := [_,_,_,_,_,_,_,_,_,_]) rfl ?_
 have G := Mod.refl No w
 have hA0 := hA
 have hB0 := hB
 refine wp_seq_k fun K1 hK1 => ?_
 refine Sb 10 rfl ?_  -- 0
 refine S_box (cs := [_, _]) rfl rfl ?_
 intro b1 w1 fb1 g1 B1
 have lb1 := B1.lt
 replace hA := hA.grow g1
 replace hB := hB.grow g1
 replace G := G.grow g1
 have zg1 := g1.size
 refine S_alloc (cs := [_, _]) zr25 rfl ?_
 intro b2 w2 fb2 g2 B2
 have lb2 := B2.lt
 replace hA := hA.grow g2
 replace hB := hB.grow g2
 replace G := G.grow g2
 replace B1 := B1.grow g2
 have zg2 := g2.size
 refine S_val (Y_assign rfl) ?_
 refine S_nl rfl rfl ?_
 refine th_n (hK1 _ _ ?_)
 clear hK1 K1
 refine wp_seq_k fun K2 hK2 => ?_
 refine D_start 8 10 (fun w => Mod (fun i => i = b2) w) follows rfl rfl ?_  -- d1 r1
 intro w3 g3
 replace hA := hA.grow g3
 replace hB := hB.grow g3
 replace G := G.grow g3
 replace B1 := B1.grow g3
 replace B2 := B2.grow g3
 have zg3 := g3.size
 have GS3 := Mod.refl (fun i => i = b2) w3
 refine Dq (i := 0) rfl GS3 (fun _ hs => Y_loadS Try.underlying25 rfl sz25 rfl (by first | exact CellsAt.mod (B1.row (by rfl)) hs (by intro h; first | omega | (dsimp only at h; omega)))) ?_
 refine Dq (i := 1) rfl GS3 (fun _ hs => Y_loadS Try.underlying25 rfl sz25 rfl (by first | exact CellsAt.mod (B1.row (by rfl)) hs (by intro h; first | omega | (dsimp only at h; omega)))) ?_
 refine D_1 (i := 2) (by kernel_rfl) ?_
 refine E_call rfl rfl en78 (spec_Reachable_c _ _ _ _ _ _ _ (by assumption) (by assumption) (by omega)) ?_  -- k1 spec.Reachable
 rintro v4 w4 ⟨A4, q4, cap4, rfl, hq4, O4, g4⟩
 replace hA := hA.grow g4
 replace hB := hB.grow g4
 replace G := G.grow g4
 replace GS3 := GS3.grow g4
 replace B1 := B1.grow g4
 replace B2 := B2.grow g4
 have zg4 := g4.size
 subst hq4
 have OR := O4.lt
 have hR := OR.r1
 refine ⟨GS3, ?_⟩
 refine D_1 (i := 3) (by kernel_rfl) ?_
 refine E_call rfl rfl en25 (spec_SweepCells_c _ _ _ _ _ _ (reachV h) _ _ _ _ (by assumption) (by assumption) hR (by omega) (by omega)) ?_  -- k2 spec.SweepCells
 rintro v5 w5 ⟨A5, B5, n15, c15, n25, c25, rs5, rfl, hn15, hn25, O5, g5⟩
 replace hA := hA.grow g5
 replace hB := hB.grow g5
 replace hR := hR.grow g5
 replace G := G.grow g5
 replace GS3 := GS3.grow g5
 replace B1 := B1.grow g5
 replace B2 := B2.grow g5
 have zg5 := g5.size
 subst hn15
 subst hn25
 obtain ⟨AH, rfl⟩ : ∃ x, x = A5 := ⟨_, rfl⟩
 obtain ⟨BH, rfl⟩ : ∃ x, x = B5 := ⟨_, rfl⟩
 obtain ⟨cH, rfl⟩ : ∃ x, x = c15 := ⟨_, rfl⟩
 obtain ⟨dH, rfl⟩ : ∃ x, x = c25 := ⟨_, rfl⟩
 obtain ⟨rsH, rfl⟩ : ∃ x, x = rs5 := ⟨_, rfl⟩
 have OX := O5.lt
 refine ⟨GS3, ?_⟩
 refine Dq (i := 4) rfl GS3 (fun _ _ => Y_extract rfl rfl) ?_
 refine Dq (i := 5) rfl GS3 (fun _ _ => Y_extract rfl rfl) ?_
 refine D_1 (i := 6) (by kernel_rfl) ?_
 refine E_stM (pre := []) (old := [_, _]) (post := []) (vs := [_, _]) (i := 6) rfl sz25 rfl rfl rfl (by first | rfl | assumption) B2 rfl rfl ?_
 intro w6 m6 X6
 replace B2 := Blk.eq (ys := [_, _]) X6 rfl
 clear X6
 replace G := G.abv m6
 replace GS3 := GS3.trn m6
 replace hA := hA0.grow G
 replace hB := hB0.grow G
 replace hR := hR.md m6
 replace OX := OX.md m6
 replace B1 := B1.md m6
 have zm6 := m6.size
 refine ⟨GS3, ?_⟩
 refine Dq (i := 7) rfl GS3 (fun _ _ => Y_assign rfl) ?_
 refine D_en (by kernel_rfl) rfl rfl ?_
 refine th_n (hK2 _ _ ?_)
 clear hK2 K2
 refine wp_ret ?_
 refine ret_rct (cs := [_, _]) Try.underlying25 rfl sz25 rfl rfl rfl (B2.row (by rfl)) ?_  -- r1
 exact ⟨_, _, _, _, _, _, _, rfl, rfl, rfl, OX.weak (fun i hi => by omega), G⟩

set_option maxHeartbeats 400000 in
set_option maxRecDepth 20000 in
theorem impl_LazyStart_c (Pr : Nat → Prop) (A B : Option Addr) (h : LH) (c d : Nat) (w : World) (hA : RC Pr w A h.cells) (hB : R1 Pr w B (ints h.roots)) (hz : hsize h ≤ 1048576) :
    Calls Try.prog 31 #[.agg #[.slice A h.cells.length c, .slice B h.roots.length d]] w (Ret fun v w' => ∃ A1 B1 C1 n1 c1 n2 c2 n3 c3 rs P1 P2, v = .agg #[.slice A1 n1 c1, .slice B1 n2 c2, .slice C1 n3 c3, .int .i64 0] ∧ n1 = (lzH h).cells.length ∧ n2 = (lzH h).roots.length ∧ n3 = (reachV h).length ∧ (∀ i : Nat, P1 i → w.heap.size ≤ i ∧ ¬ P2 i) ∧ (∀ i : Nat, P2 i → w.heap.size ≤ i) ∧ OH P1 w' 70 3 A1 B1 (lzH h) rs ∧ OI P2 w' 4 C1 (bools (reachV h)) ∧ Grow w w') := by
 have hz1 := hsize_cells h
 have hz2 := hsize_roots h
 have hne : (70 : TypeId) ≠ 3 := by decide
 have hrl := reachV_le h
 refine enter Try.func31 rfl Try.ntmps31 (L := [_,_,_,_,_,_,_,_,_,_,_,_]) rfl ?_
 have G := Mod.refl No w
 have hA0 := hA
 have hB0 := hB
 refine wp_seq_k fun K1 hK1 => ?_
 refine Sb 12 rfl ?_  -- 0
 refine S_box (cs := [_, _]) rfl rfl ?_
 intro b1 w1 fb1 g1 B1
 have lb1 := B1.lt
 replace hA := hA.grow g1
 replace hB := hB.grow g1
 replace G := G.grow g1
 have zg1 := g1.size
 refine S_alloc (cs := [_, _, _, _]) zr51 rfl ?_
 intro b2 w2 fb2 g2 B2
 have lb2 := B2.lt
 replace hA := hA.grow g2
 replace hB := hB.grow g2
 replace G := G.grow g2
 replace B1 := B1.grow g2
 have zg2 := g2.size
 refine S_nl rfl rfl ?_
 refine th_n (hK1 _ _ ?_)
 clear hK1 K1
 refine wp_seq_k fun K2 hK2 => ?_
 refine wp_seq_k fun K3 hK3 => ?_
 refine Sb 12 rfl ?_  -- 1
 refine S_val (Y_loadS Try.underlying25 rfl sz25 rfl (B1.row (by rfl))) ?_  -- l1
 refine S_call rfl en47 (impl_HeapValid_c _ _ _ _ _ _ _ (by assumption) (by assumption) (by omega)) ?_  -- k1 impl.HeapValid
 rintro v3 w3 ⟨rfl, g3⟩
 replace hA := hA.grow g3
 replace hB := hB.grow g3
 replace G := G.grow g3
 replace B1 := B1.grow g3
 replace B2 := B2.grow g3
 have zg3 := g3.size
 refine S_val (Y_not rfl) ?_
 refine S_nl rfl rfl ?_
 refine th_n (hK3 _ _ ?_)
 clear hK3 K3
 refine S_if rfl (fun hb1 => ?_) (fun hb1 => ?_)  -- c1
 · -- c1T
  first | with_reducible (replace hb1 := nb_nt hb1) | with_reducible (replace hb1 := nb_tt hb1) | with_reducible (replace hb1 := nb_bt hb1) | skip
  refine wp_seq_k fun K4 hK4 => ?_
  refine Sb 12 rfl ?_  -- 2
  refine S_val (Y_build (cs := [_, _, _, _]) zr51 pc51 rfl rfl) ?_
  refine S_stM (pre := []) (old := [_, _, _, _]) (post := []) (vs := [_, _, _, _]) sz51 rfl rfl rfl (by first | rfl | assumption) B2 rfl rfl ?_
  intro w4 m4 X4
  replace B2 := Blk.eq (ys := [_, _, _, _]) X4 rfl
  clear X4
  replace G := G.abv m4
  replace hA := hA0.grow G
  replace hB := hB0.grow G
  replace B1 := B1.md m4
  have zm4 := m4.size
  refine S_nl rfl rfl ?_
  refine th_n (hK4 _ _ ?_)
  clear hK4 K4
  refine wp_ret ?_
  refine th_r ?_
  clear hK2 K2
  refine ret_rc (cs := [_, _, _, _]) Try.underlying51 rfl sz51 rfl rfl (B2.row (by rfl)) ?_  -- r1
  exact ⟨_, _, _, _, _, _, _, _, _, [], No, No, rfl, by rw [lzH_f hb1]; rfl, by rw [lzH_f hb1]; rfl, by rw [reachV_f hb1]; rfl, fun i h => h.elim, fun i h => h.elim, by rw [lzH_f hb1]; exact OH.nil _ _ _ _ _ _, by rw [reachV_f hb1]; exact OI.nil _ _ _ _, G⟩
 · -- c1F
  first | with_reducible (replace hb1 := nb_nf hb1) | with_reducible (replace hb1 := nb_tf hb1) | with_reducible (replace hb1 := nb_bf hb1) | skip
  refine wp_skip ?_
  refine th_n (hK2 _ _ ?_)
  clear hK2 K2
  refine wp_seq_k fun K5 hK5 => ?_
  refine D_start 6 12 (fun w => Mod (fun i => i = b2) w) follows rfl rfl ?_  -- d1 r3
  intro w5 g5
  replace hA := hA.grow g5
  replace hB := hB.grow g5
  replace G := G.grow g5
  replace B1 := B1.grow g5
  replace B2 := B2.grow g5
  have zg5 := g5.size
  have GS5 := Mod.refl (fun i => i = b2) w5
  refine Dq (i := 0) rfl GS5 (fun _ hs => Y_loadS Try.underlying25 rfl sz25 rfl (by first | exact CellsAt.mod (B1.row (by rfl)) hs (by intro h; first | omega | (dsimp only at h; omega)))) ?_
  refine Dq (i := 2) rfl GS5 (fun _ hs => Y_loadS Try.underlying25 rfl sz25 rfl (by first | exact CellsAt.mod (B1.row (by rfl)) hs (by intro h; first | omega | (dsimp only at h; omega)))) ?_
  refine D_1 (i := 1) (by kernel_rfl) ?_
  refine E_call rfl rfl en69 (impl_copyHeap_c _ _ _ _ _ _ _ (by assumption) (by assumption) (by omega)) ?_  -- k2 impl.copyHeap
  rintro v6 w6 ⟨A6, B6, n16, c16, n26, c26, rs6, rfl, hn16, hn26, O6, g6⟩
  replace hA := hA.grow g6
  replace hB := hB.grow g6
  replace G := G.grow g6
  replace GS5 := GS5.grow g6
  replace B1 := B1.grow g6
  replace B2 := B2.grow g6
  have zg6 := g6.size
  subst hn16
  subst hn26
  obtain ⟨AH, rfl⟩ : ∃ x, x = A6 := ⟨_, rfl⟩
  obtain ⟨BH, rfl⟩ : ∃ x, x = B6 := ⟨_, rfl⟩
  obtain ⟨cH, rfl⟩ : ∃ x, x = c16 := ⟨_, rfl⟩
  obtain ⟨dH, rfl⟩ : ∃ x, x = c26 := ⟨_, rfl⟩
  obtain ⟨rsH, rfl⟩ : ∃ x, x = rs6 := ⟨_, rfl⟩
  have OX := O6.lt
  refine ⟨GS5, ?_⟩
  refine D_1 (i := 3) (by kernel_rfl) ?_
  refine E_call rfl rfl en79 (impl_Reachable_c _ _ _ _ _ _ _ (by assumption) (by assumption) (by omega)) ?_  -- k3 impl.Reachable
  rintro v7 w7 ⟨A7, q7, cap7, rfl, hq7, O7, g7⟩
  replace hA := hA.grow g7
  replace hB := hB.grow g7
  replace OX := OX.grow g7
  replace G := G.grow g7
  replace GS5 := GS5.grow g7
  replace B1 := B1.grow g7
  replace B2 := B2.grow g7
  have zg7 := g7.size
  subst hq7
  obtain ⟨AM, rfl⟩ : ∃ x, x = A7 := ⟨_, rfl⟩
  obtain ⟨cM, rfl⟩ : ∃ x, x = cap7 := ⟨_, rfl⟩
  have OM := O7.lt
  refine ⟨GS5, ?_⟩
  refine Dq (i := 4) rfl GS5 (fun _ _ => Y_build (cs := [_, _, _, _]) zr51 pc51 rfl rfl) ?_
  refine D_1 (i := 5) (by kernel_rfl) ?_
  refine E_stM (pre := []) (old := [_, _, _, _]) (post := []) (vs := [_, _, _, _]) (i := 5) rfl sz51 rfl rfl rfl (by first | rfl | assumption) B2 rfl rfl ?_
  intro w8 m8 X8
  replace B2 := Blk.eq (ys := [_, _, _, _]) X8 rfl
  clear X8
  replace G := G.abv m8
  replace GS5 := GS5.trn m8
  replace hA := hA0.grow G
  replace hB := hB0.grow G
  replace OX := OX.md m8
  replace OM := OM.md m8
  replace B1 := B1.md m8
  have zm8 := m8.size
  refine ⟨GS5, ?_⟩
  refine D_en (by kernel_rfl) rfl rfl ?_
  refine th_n (hK5 _ _ ?_)
  clear hK5 K5
  refine wp_ret ?_
  refine ret_rc (cs := [_, _, _, _]) Try.underlying51 rfl sz51 rfl rfl (B2.row (by rfl)) ?_  -- r2
  refine ⟨_, _, _, _, _, _, _, _, _, _, _, _, rfl, by rw [lzH_t hb1], by rw [lzH_t hb1], rfl, ?_, ?_, by rw [lzH_t hb1]; exact OX, OM, G⟩
  · intro i hi
    exact ⟨by first | omega | (dsimp only at hi; omega), fun hj => by first | omega | (dsimp only at hi hj; omega)⟩
  · intro i hi
    first | omega | (dsimp only at hi; omega)

set_option maxHeartbeats 400000 in
set_option maxRecDepth 20000 in
theorem spec_LazyStart_c (Pr : Nat → Prop) (A B : Option Addr) (h : LH) (c d : Nat) (w : World) (hA : RC Pr w A h.cells) (hB : R1 Pr w B (ints h.roots)) (hz : hsize h ≤ 1048576) :
    Calls Try.prog 30 #[.agg #[.slice A h.cells.length c, .slice B h.roots.length d]] w (Ret fun v w' => ∃ A1 B1 C1 n1 c1 n2 c2 n3 c3 rs P1 P2, v = .agg #[.slice A1 n1 c1, .slice B1 n2 c2, .slice C1 n3 c3, .int .i64 0] ∧ n1 = (lzH h).cells.length ∧ n2 = (lzH h).roots.length ∧ n3 = (reachV h).length ∧ (∀ i : Nat, P1 i → w.heap.size ≤ i ∧ ¬ P2 i) ∧ (∀ i : Nat, P2 i → w.heap.size ≤ i) ∧ OH P1 w' 70 3 A1 B1 (lzH h) rs ∧ OI P2 w' 4 C1 (bools (reachV h)) ∧ Grow w w') := by
 have hz1 := hsize_cells h
 have hz2 := hsize_roots h
 have hne : (70 : TypeId) ≠ 3 := by decide
 have hrl := reachV_le h
 refine enter Try.func30 rfl Try.ntmps30 (L := [_,_,_,_,_,_,_,_,_,_,_,_]) rfl ?_
 have G := Mod.refl No w
 have hA0 := hA
 have hB0 := hB
 refine wp_seq_k fun K1 hK1 => ?_
 refine Sb 12 rfl ?_  -- 0
 refine S_box (cs := [_, _]) rfl rfl ?_
 intro b1 w1 fb1 g1 B1
 have lb1 := B1.lt
 replace hA := hA.grow g1
 replace hB := hB.grow g1
 replace G := G.grow g1
 have zg1 := g1.size
 refine S_alloc (cs := [_, _, _, _]) zr51 rfl ?_
 intro b2 w2 fb2 g2 B2
 have lb2 := B2.lt
 replace hA := hA.grow g2
 replace hB := hB.grow g2
 replace G := G.grow g2
 replace B1 := B1.grow g2
 have zg2 := g2.size
 refine S_nl rfl rfl ?_
 refine th_n (hK1 _ _ ?_)
 clear hK1 K1
 refine wp_seq_k fun K2 hK2 => ?_
 refine wp_seq_k fun K3 hK3 => ?_
 refine Sb 12 rfl ?_  -- 1
 refine S_val (Y_loadS Try.underlying25 rfl sz25 rfl (B1.row (by rfl))) ?_  -- l1
 refine S_call rfl en56 (spec_HeapValid_c _ _ _ _ _ _ _ (by assumption) (by assumption) (by omega)) ?_  -- k1 spec.HeapValid
 rintro v3 w3 ⟨rfl, g3⟩
 replace hA := hA.grow g3
 replace hB := hB.grow g3
 replace G := G.grow g3
 replace B1 := B1.grow g3
 replace B2 := B2.grow g3
 have zg3 := g3.size
 refine S_val (Y_not rfl) ?_
 refine S_nl rfl rfl ?_
 refine th_n (hK3 _ _ ?_)
 clear hK3 K3
 refine S_if rfl (fun hb1 => ?_) (fun hb1 => ?_)  -- c1
 · -- c1T
  first | with_reducible (replace hb1 := nb_nt hb1) | with_reducible (replace hb1 := nb_tt hb1) | with_reducible (replace hb1 := nb_bt hb1) | skip
  refine wp_seq_k fun K4 hK4 => ?_
  refine Sb 12 rfl ?_  -- 2
  refine S_val (Y_build (cs := [_, _, _, _]) zr51 pc51 rfl rfl) ?_
  refine S_stM (pre := []) (old := [_, _, _, _]) (post := []) (vs := [_, _, _, _]) sz51 rfl rfl rfl (by first | rfl | assumption) B2 rfl rfl ?_
  intro w4 m4 X4
  replace B2 := Blk.eq (ys := [_, _, _, _]) X4 rfl
  clear X4
  replace G := G.abv m4
  replace hA := hA0.grow G
  replace hB := hB0.grow G
  replace B1 := B1.md m4
  have zm4 := m4.size
  refine S_nl rfl rfl ?_
  refine th_n (hK4 _ _ ?_)
  clear hK4 K4
  refine wp_ret ?_
  refine th_r ?_
  clear hK2 K2
  refine ret_rc (cs := [_, _, _, _]) Try.underlying51 rfl sz51 rfl rfl (B2.row (by rfl)) ?_  -- r1
  exact ⟨_, _, _, _, _, _, _, _, _, [], No, No, rfl, by rw [lzH_f hb1]; rfl, by rw [lzH_f hb1]; rfl, by rw [reachV_f hb1]; rfl, fun i h => h.elim, fun i h => h.elim, by rw [lzH_f hb1]; exact OH.nil _ _ _ _ _ _, by rw [reachV_f hb1]; exact OI.nil _ _ _ _, G⟩
 · -- c1F
  first | with_reducible (replace hb1 := nb_nf hb1) | with_reducible (replace hb1 := nb_tf hb1) | with_reducible (replace hb1 := nb_bf hb1) | skip
  refine wp_skip ?_
  refine th_n (hK2 _ _ ?_)
  clear hK2 K2
  refine wp_seq_k fun K5 hK5 => ?_
  refine D_start 6 12 (fun w => Mod (fun i => i = b2) w) follows rfl rfl ?_  -- d1 r3
  intro w5 g5
  replace hA := hA.grow g5
  replace hB := hB.grow g5
  replace G := G.grow g5
  replace B1 := B1.grow g5
  replace B2 := B2.grow g5
  have zg5 := g5.size
  have GS5 := Mod.refl (fun i => i = b2) w5
  refine Dq (i := 0) rfl GS5 (fun _ hs => Y_loadS Try.underlying25 rfl sz25 rfl (by first | exact CellsAt.mod (B1.row (by rfl)) hs (by intro h; first | omega | (dsimp only at h; omega)))) ?_
  refine Dq (i := 2) rfl GS5 (fun _ hs => Y_loadS Try.underlying25 rfl sz25 rfl (by first | exact CellsAt.mod (B1.row (by rfl)) hs (by intro h; first | omega | (dsimp only at h; omega)))) ?_
  refine D_1 (i := 1) (by kernel_rfl) ?_
  refine E_call rfl rfl en77 (spec_l7Copy_c _ _ _ _ _ _ _ (by assumption) (by assumption) (by omega)) ?_  -- k2 spec.l7Copy
  rintro v6 w6 ⟨A6, B6, n16, c16, n26, c26, rs6, rfl, hn16, hn26, O6, g6⟩
  replace hA := hA.grow g6
  replace hB := hB.grow g6
  replace G := G.grow g6
  replace GS5 := GS5.grow g6
  replace B1 := B1.grow g6
  replace B2 := B2.grow g6
  have zg6 := g6.size
  subst hn16
  subst hn26
  obtain ⟨AH, rfl⟩ : ∃ x, x = A6 := ⟨_, rfl⟩
  obtain ⟨BH, rfl⟩ : ∃ x, x = B6 := ⟨_, rfl⟩
  obtain ⟨cH, rfl⟩ : ∃ x, x = c16 := ⟨_, rfl⟩
  obtain ⟨dH, rfl⟩ : ∃ x, x = c26 := ⟨_, rfl⟩
  obtain ⟨rsH, rfl⟩ : ∃ x, x = rs6 := ⟨_, rfl⟩
  have OX := O6.lt
  refine ⟨GS5, ?_⟩
  refine D_1 (i := 3) (by kernel_rfl) ?_
  refine E_call rfl rfl en78 (spec_Reachable_c _ _ _ _ _ _ _ (by assumption) (by assumption) (by omega)) ?_  -- k3 spec.Reachable
  rintro v7 w7 ⟨A7, q7, cap7, rfl, hq7, O7, g7⟩
  replace hA := hA.grow g7
  replace hB := hB.grow g7
  replace OX := OX.grow g7
  replace G := G.grow g7
  replace GS5 := GS5.grow g7
  replace B1 := B1.grow g7
  replace B2 := B2.grow g7
  have zg7 := g7.size
  subst hq7
  obtain ⟨AM, rfl⟩ : ∃ x, x = A7 := ⟨_, rfl⟩
  obtain ⟨cM, rfl⟩ : ∃ x, x = cap7 := ⟨_, rfl⟩
  have OM := O7.lt
  refine ⟨GS5, ?_⟩
  refine Dq (i := 4) rfl GS5 (fun _ _ => Y_build (cs := [_, _, _, _]) zr51 pc51 rfl rfl) ?_
  refine D_1 (i := 5) (by kernel_rfl) ?_
  refine E_stM (pre := []) (old := [_, _, _, _]) (post := []) (vs := [_, _, _, _]) (i := 5) rfl sz51 rfl rfl rfl (by first | rfl | assumption) B2 rfl rfl ?_
  intro w8 m8 X8
  replace B2 := Blk.eq (ys := [_, _, _, _]) X8 rfl
  clear X8
  replace G := G.abv m8
  replace GS5 := GS5.trn m8
  replace hA := hA0.grow G
  replace hB := hB0.grow G
  replace OX := OX.md m8
  replace OM := OM.md m8
  replace B1 := B1.md m8
  have zm8 := m8.size
  refine ⟨GS5, ?_⟩
  refine D_en (by kernel_rfl) rfl rfl ?_
  refine th_n (hK5 _ _ ?_)
  clear hK5 K5
  refine wp_ret ?_
  refine ret_rc (cs := [_, _, _, _]) Try.underlying51 rfl sz51 rfl rfl (B2.row (by rfl)) ?_  -- r2
  refine ⟨_, _, _, _, _, _, _, _, _, _, _, _, rfl, by rw [lzH_t hb1], by rw [lzH_t hb1], rfl, ?_, ?_, by rw [lzH_t hb1]; exact OX, OM, G⟩
  · intro i hi
    exact ⟨by first | omega | (dsimp only at hi; omega), fun hj => by first | omega | (dsimp only at hi hj; omega)⟩
  · intro i hi
    first | omega | (dsimp only at hi; omega)

set_option maxHeartbeats 400000 in
set_option maxRecDepth 20000 in
theorem laws_markLazy_c (P Q : Nat → Prop) (A B C : Option Addr) (h : LH) (ms : List Bool) (rs : List (Option Addr × Nat)) (c d e : Nat) (x k : Int) (w : World) (O : OH P w 70 3 A B h rs) (OM : OI Q w 4 C (bools ms)) (hpq : ∀ i, P i → ¬ Q i) (hz : hsize h ≤ 1048576) (hxz : ms.length ≤ 1048576) (hk : 0 ≤ k ∧ k ≤ 137438953472) :
    Calls Try.prog 33 #[.agg #[.slice A h.cells.length c, .slice B h.roots.length d, .slice C ms.length e, .int .i64 x], .int .i64 k] w (Ret fun v w' => v = .int .i64 (kEnd k h + (ms.length : Int)) ∧ OH P w' 70 3 A B (mkH k h) rs ∧ OI Q w' 4 C (bools (thirds (kEnd k h) ms.length)) ∧ Mod (fun i => P i ∨ Q i) w w') := by
 replace O := O.lt
 replace OM := OM.lt
 have hk2 := kAt_le (k := k) (cs := h.cells) (j := h.cells.length) (Nat.le_refl _)
 have hk3 := kAt_ge k h.cells h.cells.length
 have hz2 := hsize_roots h
 have hz4 : 2 * h.cells.length + rsum h.cells h.cells.length ≤ 2 * hsize h := by unfold hsize; omega
 have hke : kEnd k h = kAt k h.cells h.cells.length + (h.roots.length : Int) := rfl
 refine enter Try.func33 rfl Try.ntmps33 (L := [_,_,_,_,_,_,_,_,_,_,_,_,_,_]) rfl ?_
 have G := Mod.refl (fun i => P i ∨ Q i) w
 refine wp_seq_k fun K1 hK1 => ?_
 refine Sb 14 rfl ?_  -- 0
 refine S_box (cs := [_, _, _, _]) rfl rfl ?_
 intro b1 w1 fb1 g1 B1
 have lb1 := B1.lt
 replace O := O.grow g1
 replace OM := OM.grow g1
 replace G := G.grow g1
 have zg1 := g1.size
 refine S_val (Y_assign rfl) ?_
 refine S_nl rfl rfl ?_
 refine th_n (hK1 _ _ ?_)
 clear hK1 K1
 refine wp_seq_k fun K2 hK2 => ?_
 refine Sb 14 rfl ?_  -- 1
 refine S_val (Y_field Try.underlying51 rfl fz51_0 (by decide) rfl) ?_
 refine S_val (Y_loadS Try.underlying25 rfl sz25 rfl (CellsAt.of_blk (pre := []) (us := [_, _]) (post := [_, _]) B1 rfl)) ?_  -- l1
 refine S_val (Y_move rfl) ?_
 refine S_call rfl en16 (laws_markHeap_c _ _ _ _ _ _ _ _ _ O (by omega) ⟨by omega, by omega⟩) ?_  -- k1 laws.markHeap
 rintro v2 w2 ⟨rfl, O2, m2⟩
 replace OM := OM.mod m2 (fun i hi hs => hpq i hs.1 hi.1)
 replace G := Mod.trans' G m2 (fun _ h _ => h) (fun i h _ => by first | exact .inl h.1 | exact .inr h.1)
 replace B1 := B1.md m2
 have zm2 := m2.size
 obtain ⟨OY, hOY⟩ : ∃ x : OH _ _ _ _ _ _ _ _, x = O2 := ⟨_, rfl⟩
 clear hOY
 refine S_val (Y_assign rfl) ?_
 refine S_nl rfl rfl ?_
 refine th_n (hK2 _ _ ?_)
 clear hK2 K2
 refine wp_seq_k fun K3 hK3 => ?_
 refine Sb 14 rfl ?_  -- 2
 refine S_val (Y_field Try.underlying51 rfl fz51_1 (by decide) rfl) ?_
 refine S_val (Y_load Try.underlying38 rfl rfl (B1.at (by rfl))) ?_  -- l2
 refine S_val (Y_move rfl) ?_
 refine S_call rfl en23 (markBoolS_p _ _ _ _ _ _ _ OM rfl (by omega) ⟨by omega, by omega⟩) ?_  -- k2 laws.markBoolS
 rintro v3 w3 ⟨rfl, O3, m3⟩
 replace OY := OY.mod m3 (fun i hi hs => hpq i hi.1 hs.1)
 replace G := Mod.trans' G m3 (fun _ h _ => h) (fun i h _ => by first | exact .inl h.1 | exact .inr h.1)
 replace B1 := B1.md m3
 have zm3 := m3.size
 have OZ := O3
 refine S_val (Y_assign rfl) ?_
 refine S_nl rfl rfl ?_
 refine th_n (hK3 _ _ ?_)
 clear hK3 K3
 refine wp_seq_k fun K4 hK4 => ?_
 refine Sb 14 rfl ?_  -- 3
 refine S_val (Y_move rfl) ?_
 refine S_val (Y_assign rfl) ?_
 refine S_nl rfl rfl ?_
 refine th_n (hK4 _ _ ?_)
 clear hK4 K4
 refine wp_ret ?_
 refine ret_r1 rfl rfl ?_  -- r1
 exact ⟨rfl, OY.weak (fun i hi => hi.1), OZ.weak (fun i hi => hi.1), G⟩

set_option maxHeartbeats 400000 in
set_option maxRecDepth 20000 in
theorem laws_heldLazy_c (P Q : Nat → Prop) (A B C : Option Addr) (h : LH) (n c d e : Nat) (x k : Int) (w : World) (hA : RC P w A (mkH k h).cells) (hB : R1 P w B (ints (mkH k h).roots)) (hC : R1 Q w C (bools (thirds (kEnd k h) n))) (hz : hsize h ≤ 1048576) (hxz : n ≤ 1048576) (hk : 0 ≤ k ∧ k ≤ 137438953472) :
    Calls Try.prog 34 #[.agg #[.slice A h.cells.length c, .slice B h.roots.length d, .slice C n e, .int .i64 x], .int .i64 k] w (Ret fun v w' => v = .int .i64 (kEnd k h + (n : Int)) ∧ Grow w w') := by
 have hk2 := kAt_le (k := k) (cs := h.cells) (j := h.cells.length) (Nat.le_refl _)
 have hk3 := kAt_ge k h.cells h.cells.length
 have hz2 := hsize_roots h
 have hz4 : 2 * h.cells.length + rsum h.cells h.cells.length ≤ 2 * hsize h := by unfold hsize; omega
 have hke : kEnd k h = kAt k h.cells h.cells.length + (h.roots.length : Int) := rfl
 refine enter Try.func34 rfl Try.ntmps34 (L := [_,_,_,_,_,_,_,_,_,_,_,_,_,_,_,_,_,_]) rfl ?_
 have G := Mod.refl No w
 have hA0 := hA
 have hB0 := hB
 have hC0 := hC
 refine wp_seq_k fun K1 hK1 => ?_
 refine Sb 18 rfl ?_  -- 0
 refine S_box (cs := [_, _, _, _]) rfl rfl ?_
 intro b1 w1 fb1 g1 B1
 have lb1 := B1.lt
 replace hA := hA.grow g1
 replace hB := hB.grow g1
 replace hC := hC.grow g1
 replace G := G.grow g1
 have zg1 := g1.size
 refine S_val (Y_assign rfl) ?_
 refine S_nl rfl rfl ?_
 refine th_n (hK1 _ _ ?_)
 clear hK1 K1
 refine wp_seq_k fun K2 hK2 => ?_
 refine Sb 18 rfl ?_  -- 1
 refine S_val (Y_field Try.underlying51 rfl fz51_0 (by decide) rfl) ?_
 refine S_val (Y_loadS Try.underlying25 rfl sz25 rfl (CellsAt.of_blk (pre := []) (us := [_, _]) (post := [_, _]) B1 rfl)) ?_  -- l1
 refine S_val (Y_move rfl) ?_
 refine S_call rfl en17 (laws_heldHeap_c _ _ _ _ _ _ _ _ hA hB (by omega) ⟨by omega, by omega⟩) ?_  -- k1 laws.heldHeap
 rintro v2 w2 ⟨rfl, g2⟩
 replace hA := hA.grow g2
 replace hB := hB.grow g2
 replace hC := hC.grow g2
 replace G := G.grow g2
 replace B1 := B1.grow g2
 have zg2 := g2.size
 refine S_val (Y_assign rfl) ?_
 refine S_nl rfl rfl ?_
 refine th_n (hK2 _ _ ?_)
 clear hK2 K2
 refine wp_seq_k fun K3 hK3 => ?_
 refine wp_seq_k fun K4 hK4 => ?_
 refine Sb 18 rfl ?_  -- 2
 refine S_val (Y_move rfl) ?_
 refine S_val (Y_lss rfl rfl) ?_
 refine S_nl rfl rfl ?_
 refine th_n (hK4 _ _ ?_)
 clear hK4 K4
 refine S_if rfl (fun hb1 => ?_) (fun hb1 => ?_)  -- c1
 · -- c1T
  replace hb1 := nb_tt hb1
  omega
 · -- c1F
  replace hb1 := nb_tf hb1
  refine wp_skip ?_
  refine th_n (hK3 _ _ ?_)
  clear hK3 K3
  refine wp_seq_k fun K5 hK5 => ?_
  refine Sb 18 rfl ?_  -- 4
  refine S_val (Y_field Try.underlying51 rfl fz51_1 (by decide) rfl) ?_
  refine S_val (Y_load Try.underlying38 rfl rfl (B1.at (by rfl))) ?_  -- l2
  refine S_val (Y_move rfl) ?_
  refine S_call rfl en24 (laws_heldBoolS_c _ _ _ _ _ _ hC (by omega) ⟨by omega, by omega⟩) ?_  -- k2 laws.heldBoolS
  rintro v3 w3 ⟨rfl, g3⟩
  replace hA := hA.grow g3
  replace hB := hB.grow g3
  replace hC := hC.grow g3
  replace G := G.grow g3
  replace B1 := B1.grow g3
  have zg3 := g3.size
  refine S_val (Y_assign rfl) ?_
  refine S_nl rfl rfl ?_
  refine th_n (hK5 _ _ ?_)
  clear hK5 K5
  refine wp_seq_k fun K6 hK6 => ?_
  refine wp_seq_k fun K7 hK7 => ?_
  refine Sb 18 rfl ?_  -- 5
  refine S_val (Y_move rfl) ?_
  refine S_val (Y_lss rfl rfl) ?_
  refine S_nl rfl rfl ?_
  refine th_n (hK7 _ _ ?_)
  clear hK7 K7
  refine S_if rfl (fun hb2 => ?_) (fun hb2 => ?_)  -- c2
  · -- c2T
   replace hb2 := nb_tt hb2
   omega
  · -- c2F
   replace hb2 := nb_tf hb2
   refine wp_skip ?_
   refine th_n (hK6 _ _ ?_)
   clear hK6 K6
   refine wp_seq_k fun K8 hK8 => ?_
   refine Sb 18 rfl ?_  -- 7
   refine S_val (Y_move rfl) ?_
   refine S_val (Y_assign rfl) ?_
   refine S_nl rfl rfl ?_
   refine th_n (hK8 _ _ ?_)
   clear hK8 K8
   refine wp_ret ?_
   refine ret_r1 rfl rfl ?_  -- r1
   exact ⟨rfl, G⟩

end Go.Proofs.Ytjmfdmndchoplaa
