/-
  Walks through functions of the program and the reference, and the plain laws behind them: what one claim needs of them.
  Conditions: those that each theorem states.
-/
import Derived.Test.YtdlmjmcddafojaaQdS2
set_option linter.unusedVariables false
set_option linter.unusedSimpArgs false
namespace Go.Proofs.Ytdlmjmcddafojaa
/-! Col -/
section
open Go
/-- Used, and out of reach. -/
def Lost (h : LH) (i : Nat) : Prop := usedAt h.cells i = true ∧ rB h i = false
theorem rch_root {cs : List LC} {fr : List Int} {ok : Int → Bool} {n : Nat} (h : Rch cs fr ok n) : ∃ m : Nat, (m : Int) ∈ fr ∧ Rch cs [(m : Int)] ok n := by
  induction h with
  | @root n a b => exact ⟨n, a, .root (by simp) b⟩
  | step _ a b ih =>
    obtain ⟨m, hm, hr⟩ := ih
    exact ⟨m, hm, .step hr a b⟩
theorem from_mem {h : LH} (v : Valid h) {k i : Nat} (hk : k < h.cells.length) : inB (fromM h k) i = true ↔ Rch h.cells [(k : Int)] nn i := by
  have hl := leads_one v hk
  by_cases hi : i < h.cells.length
  · rw [inB_at (by rw [fromM_len]; exact hi)]
    have e := fromM_get (h := h) (n := k) hi
    rw [List.getElem?_eq_getElem (by rw [fromM_len]; exact hi)] at e
    rw [Option.some.inj e, decide_eq_true_eq, orderL_mem hl]
  · constructor
    · intro hb
      have := inB_lt hb
      rw [fromM_len] at this
      exact absurd this hi
    · intro hr
      exact absurd (hr.lt hl) hi
theorem refs_used {h : LH} (v : Valid h) {c : Nat} {x : Int} (hx : x ∈ refsOf h.cells c) : usedAt h.cells c = true := by
  by_cases hc : c < h.cells.length
  · rw [usedAt_at hc]
    cases hu : h.cells[c].used with
    | true => rfl
    | false =>
      have := (v.cells c hc).2 hu
      rw [refsOf_at hc, List.eq_nil_of_length_eq_zero this.2] at hx
      cases hx
  · simp [refsOf, List.getElem?_eq_none (by omega : h.cells.length ≤ c)] at hx
theorem rB_trans {h : LH} (v : Valid h) {n m : Nat} (h1 : rB h n = true) (h2 : Rch h.cells [(n : Int)] nn m) : rB h m = true := (rB_iff v).2 (rch_trans ((rB_iff v).1 h1) h2)
/-- What does not die is reached as before. -/
theorem live_path {h : LH} {p : Nat → Bool} (k : Keeps h p) {j i : Nat} (hj : p j = false) (hr : Rch h.cells [(j : Int)] nn i) : p i = false ∧ Rch (dropH h p).cells [(j : Int)] nn i := by
  induction hr with
  | @root n a b =>
    simp only [List.mem_singleton] at a
    have : n = j := by exact Int.ofNat.inj a
    subst this
    exact ⟨hj, .root (by simp) b⟩
  | @step m n _ a b ih =>
    obtain ⟨h1, h2⟩ := ih
    refine ⟨?_, .step h2 ?_ b⟩
    · cases hp : p n with
      | false => rfl
      | true => exact absurd ⟨by omega, by simpa using hp⟩ (k.2 m h1 _ a)
    · show (n : Int) ∈ refsOf (dropC h.cells p) m
      rw [refsOf_drop, if_neg (by rw [h1]; decide)]
      exact a
theorem lost_drop {h : LH} (v : Valid h) {p : Nat → Bool} (k : Keeps h p) {i : Nat} : Lost (dropH h p) i ↔ Lost h i ∧ p i = false := by
  unfold Lost
  rw [drop_rB v (keeps_spares v k)]
  show usedAt (dropC h.cells p) i = true ∧ _ ↔ _
  rw [usedAt_drop]
  cases usedAt h.cells i <;> cases p i <;> simp
/-- Each lost cell is reached from a lost suspect that is still to come. -/
def Inv (h : LH) (k : Nat) : Prop := ∀ i, Lost h i → ∃ j, k ≤ j ∧ Lost h j ∧ Rch h.cells [(j : Int)] nn i
theorem inv_step {h : LH} (v : Valid h) {k : Nat} (hu : usedAt h.cells k = true) (hi : Inv h k) : Inv (dropH h (deadP h k)) (k + 1) := by
  have hk := usedAt_lt hu
  have kp := dead_keeps v k
  intro i hl
  obtain ⟨hli, hdi⟩ := (lost_drop v kp).1 hl
  obtain ⟨j, hj, hlj, hrj⟩ := hi i hli
  have build : ∀ j', k ≤ j' → j' ≠ k → Lost h j' → deadP h k j' = false → Rch h.cells [(j' : Int)] nn i → ∃ j, k + 1 ≤ j ∧ Lost (dropH h (deadP h k)) j ∧ Rch (dropH h (deadP h k)).cells [(j : Int)] nn i :=
    fun j' h1 h2 h3 h4 h5 => ⟨j', by omega, (lost_drop v kp).2 ⟨h3, h4⟩, (live_path kp h4 h5).2⟩
  by_cases hin : inB (fromM h k) i = true
  · have hdi2 := hdi
    unfold deadP at hdi2
    rw [hin, Bool.true_and, Bool.not_eq_false', decide_eq_true_eq] at hdi2
    obtain ⟨m, hm, hmi⟩ := rch_root ((orderL_mem (heldL_leads v k)).1 hdi2)
    obtain ⟨m', e, _, hp⟩ := selL_mem.1 hm
    have : m = m' := by exact Int.ofNat.inj e
    subst this
    unfold heldP at hp
    rw [Bool.and_eq_true, decide_eq_true_eq] at hp
    have hcm : (m : Int) ∈ refsAll h (inB (fromM h k)) := List.count_pos_iff.1 (by omega)
    rcases refsAll_mem.1 hcm with hr | ⟨c, hc, hcf, hr⟩
    · have := rB_trans v (rB_root v hr) hmi
      rw [hli.2] at this
      cases this
    · have hcl : Lost h c := ⟨refs_used v hr, by
        cases hb : rB h c with
        | false => rfl
        | true =>
          have := rB_trans v (rB_step v hb hr) hmi
          rw [hli.2] at this
          cases this⟩
      obtain ⟨j', hj', hl', hr'⟩ := hi c hcl
      have hnf : inB (fromM h k) j' = false := by
        cases hf : inB (fromM h k) j' with
        | false => rfl
        | true =>
          have := (from_mem v hk).2 (rch_trans ((from_mem v hk).1 hf) hr')
          rw [hcf] at this
          cases this
      refine build j' hj' ?_ hl' ?_ ?_
      · intro e
        have hkk : inB (fromM h k) k = true := (from_mem v hk).2 (.root (by simp) (nn_nat k))
        rw [e, hkk] at hnf
        cases hnf
      · unfold deadP
        rw [hnf]
        rfl
      · exact rch_trans (.step hr' hr (nn_nat m)) hmi
  · refine build j hj ?_ hlj ?_ hrj
    · intro e
      subst e
      exact hin ((from_mem v hk).2 hrj)
    · cases hd : deadP h k j with
      | false => rfl
      | true => exact absurd ((from_mem v hk).2 (rch_trans ((from_mem v hk).1 (dead_from hd)) hrj)) hin
theorem cyc_inv {h : LH} (v : Valid h) : ∀ k, Inv (cycH h k) k
  | 0 => fun i hl => ⟨i, Nat.zero_le _, hl, .root (by simp) (nn_nat i)⟩
  | k + 1 => by
    have ih := cyc_inv v k
    cases hu : usedAt (cycH h k).cells k with
    | true => rw [cycH_t hu]; exact inv_step (cycH_valid v k) hu ih
    | false =>
      rw [cycH_f hu]
      intro i hl
      obtain ⟨j, hj, hlj, hr⟩ := ih i hl
      refine ⟨j, ?_, hlj, hr⟩
      have : j ≠ k := by
        intro e
        subst e
        rw [hlj.1] at hu
        cases hu
      omega
theorem cyc_none {h : LH} (v : Valid h) (i : Nat) : ¬ Lost (cycH h h.cells.length) i := fun hl => by
  obtain ⟨j, hj, hlj, _⟩ := cyc_inv v h.cells.length i hl
  have := usedAt_lt hlj.1
  rw [cycH_len] at this
  omega
theorem cyc_rB {h : LH} (v : Valid h) : ∀ k n, rB (cycH h k) n = rB h n
  | 0, _ => rfl
  | k + 1, n => by
    have ih := cyc_rB v k n
    cases hu : usedAt (cycH h k).cells k with
    | true =>
      have vk := cycH_valid v k
      rw [cycH_t hu, drop_rB vk (keeps_spares vk (dead_keeps vk k))]
      exact ih
    | false => rw [cycH_f hu]; exact ih
theorem cyc_view {h : LH} (v : Valid h) : ∀ k, viewV (cycH h k) = viewV h
  | 0 => rfl
  | k + 1 => by
    have ih := cyc_view v k
    cases hu : usedAt (cycH h k).cells k with
    | true =>
      have vk := cycH_valid v k
      rw [cycH_t hu, drop_view vk (dead_keeps vk k)]
      exact ih
    | false => rw [cycH_f hu]; exact ih
theorem cyc_count {h : LH} (v : Valid h) : ∀ k, cntP (usedAt (cycH h k).cells) h.cells.length + cycN h k = cntP (usedAt h.cells) h.cells.length
  | 0 => rfl
  | k + 1 => by
    have ih := cyc_count v k
    cases hu : usedAt (cycH h k).cells k with
    | true =>
      have vk := cycH_valid v k
      have hk := usedAt_lt hu
      rw [cycH_t hu, cycN_t hu]
      have : cntP (usedAt (cycH h k).cells) h.cells.length = cntP (usedAt (dropH (cycH h k) (deadP (cycH h k) k)).cells) h.cells.length + cntP (deadP (cycH h k) k) h.cells.length := cntP_add fun i _ => by
        show (_ ↔ (usedAt (dropC (cycH h k).cells _) i = true ∨ _)) ∧ ¬ (usedAt (dropC (cycH h k).cells _) i = true ∧ _)
        rw [usedAt_drop]
        cases hd : deadP (cycH h k) k i with
        | true => have := dead_used vk hk hu hd; simp [this]
        | false => simp
      omega
    | false => rw [cycH_f hu, cycN_f hu]; exact ih
theorem cyc_len {h : LH} (v : Valid h) : cycN h h.cells.length = cntP (leakP h) h.cells.length := by
  have h1 := cyc_count v h.cells.length
  have h2 := used_split v
  have h3 : cntP (usedAt (cycH h h.cells.length).cells) h.cells.length = cntP (rB h) h.cells.length := cntP_congr fun i hi => by
    rw [← cyc_rB v h.cells.length i]
    cases hr : rB (cycH h h.cells.length) i with
    | true => exact rB_used (cycH_valid v _) hr
    | false =>
      cases hu : usedAt (cycH h h.cells.length).cells i with
      | false => rfl
      | true => exact absurd ⟨hu, hr⟩ (cyc_none v i)
  omega
/-- A heap without lost cells: as many are used as can be reached. -/
theorem used_live {h : LH} (v : Valid h) (hn : ∀ i, ¬ Lost h i) : (usedV h).1 = (usedV h).2 := by
  rw [usedV_eq v]
  have : cntP (usedAt h.cells) h.cells.length = cntP (rB h) h.cells.length := cntP_congr fun i _ => by
    cases hr : rB h i with
    | true => exact rB_used v hr
    | false =>
      cases hu : usedAt h.cells i with
      | false => rfl
      | true => exact absurd ⟨hu, hr⟩ (hn i)
  show ((cntP (usedAt h.cells) h.cells.length : Nat) : Int) = ((cntP (rB h) h.cells.length : Nat) : Int)
  rw [this]
def sweptH (h : LH) : LH := dropH h (sweepP (reachV h))
theorem swept_eq {h : LH} (v : Valid h) : sweepV h (reachV h) = (sweptH h, ((cntP (leakP h) h.cells.length : Nat) : Int)) := by
  have hv := valid_iff.2 v
  rw [sweepV_t hv (reachV_len hv) ((valid_drop v _).2 (keeps_reach v))]
  have : cntP (sweepN h (reachV h)) h.cells.length = cntP (leakP h) h.cells.length := cntP_congr fun i hi => by
    unfold sweepN leakP
    rw [sweepP_reach hv hi]
  rw [this]
  rfl
theorem swept_valid {h : LH} (v : Valid h) : Valid (sweptH h) := valid_iff.1 ((valid_drop v _).2 (keeps_reach v))
end
/-! Sm -/
section
open Go
/-- At most 40 cells, each with at most three references; four roots. -/
structure Sm (h : LH) : Prop where
  le : h.cells.length ≤ 40
  three : ∀ c ∈ h.cells, c.refs.length ≤ 3
  four : h.roots.length = 4
theorem Valid.sm {h : LH} (v : Valid h) : Sm h := ⟨v.le, fun c hc => by
  obtain ⟨n, hn, rfl⟩ := List.getElem_of_mem hc
  exact v.refs3 hn, v.roots4⟩
theorem sm_of {h : LH} (h1 : h.cells.length ≤ 41) (h2 : ∀ c ∈ h.cells, c.refs.length ≤ 3) (h3 : h.roots.length ≤ 4) : hsize h ≤ 300 := by
  have := rsum_le3 h.cells h.cells.length h2
  unfold hsize
  omega
theorem Sm.size {h : LH} (s : Sm h) : hsize h ≤ 300 := sm_of (by have := s.le; omega) s.three (by rw [s.four]; omega)
theorem Sm.rest {h : LH} (s : Sm h) : hsize ⟨h.cells, h.roots.drop 1⟩ ≤ 300 := sm_of (by have := s.le; show h.cells.length ≤ 41; omega) s.three (by show (h.roots.drop 1).length ≤ 4; rw [List.length_drop, s.four]; omega)
theorem Sm.root {h : LH} (s : Sm h) (k : Nat) (x : Int) : hsize ⟨h.cells, h.roots.set k x⟩ ≤ 300 := sm_of (by have := s.le; show h.cells.length ≤ 41; omega) s.three (by show (h.roots.set k x).length ≤ 4; rw [List.length_set, s.four]; omega)
theorem Sm.more {h : LH} (s : Sm h) {z : LC} (hz : z.refs.length ≤ 3) : hsize ⟨h.cells ++ [z], h.roots⟩ ≤ 300 := sm_of (by have := s.le; show (h.cells ++ [z]).length ≤ 41; rw [List.length_append]; simp; omega) (fun c hc => by
  rcases List.mem_append.1 (show c ∈ h.cells ++ [z] from hc) with hc | hc
  · exact s.three c hc
  · simp only [List.mem_singleton] at hc
    rw [hc]
    exact hz) (by show h.roots.length ≤ 4; rw [s.four]; omega)
theorem Sm.ref {h : LH} (s : Sm h) {i : Nat} (hi : i < h.cells.length) (j : Nat) (x : Int) : Sm ⟨h.cells.set i ⟨h.cells[i].used, h.cells[i].data, h.cells[i].refs.set j x⟩, h.roots⟩ := ⟨by show (h.cells.set i _).length ≤ 40; rw [List.length_set]; exact s.le, fun c hc => by
  rcases List.mem_or_eq_of_mem_set (show c ∈ h.cells.set i _ from hc) with hc | rfl
  · exact s.three c hc
  · show (h.cells[i].refs.set j x).length ≤ 3
    rw [List.length_set]
    exact s.three _ (List.getElem_mem hi), s.four⟩
theorem Sm.swept {h : LH} (v : Valid h) : Sm (sweepV h (reachV h)).1 := by
  rw [swept_eq v]
  exact (swept_valid v).sm
theorem Blk.pickI {w : World} {b : Nat} {e : TypeId} {l : List Int} {k : Nat} (B : Blk w b e (ints l).toArray) (hk : k < l.length) : ∃ x : Int, w.cell? ⟨b, 0 + k * 1, none⟩ = some (.int .i64 x) := by
  refine ⟨l[k], ?_⟩
  rw [Nat.zero_add, Nat.mul_one]
  exact B.at (by rw [List.getElem?_toArray]; exact ints_get (List.getElem?_eq_getElem hk))
theorem flatO_last (l : List LCmd) (o : LCmd) : flatO (l ++ [o]) = flatO l ++ cmdC o := by rw [flatO_app, flatO, flatO, List.append_nil]
theorem flatO_take (l : List LCmd) (k : Nat) : (flatO l).take (k * 4) = flatO (l.take k) := by
  by_cases hk : k ≤ l.length
  · have e : flatO l = flatO (l.take k) ++ flatO (l.drop k) := by rw [← flatO_app, List.take_append_drop]
    rw [e, List.take_left']
    rw [flatO_len, List.length_take]
    omega
  · rw [List.take_of_length_le (by rw [flatO_len]; omega), List.take_of_length_le (by omega)]
theorem flatO_rep (o : LCmd) : ∀ n : Nat, flatO (List.replicate n o) = zeros (cmdC o) n
  | 0 => rfl
  | n + 1 => by rw [List.replicate_succ, flatO, flatO_rep o n]; rfl
theorem RO.of_ow {Pr : Nat → Prop} {w : World} {e : TypeId} {A : Option Addr} {n cap : Nat} {l : List LCmd} (O : OW Pr w e 4 A n cap (flatO l)) : RO Pr w A l := fun k o hk => by
  have hl := (List.getElem?_eq_some_iff.1 hk).1
  obtain ⟨b, post, rfl, hp, hB⟩ := O.blk (fun e0 => by
    have := flatO_len l
    rw [e0] at this
    simp at this
    omega)
  exact RO.of_blk hB hp k o hk
theorem all_snoc {α : Type} {p : α → Bool} {l : List α} {o : α} (h : l.all p = true) (ho : p o = true) : (l ++ [o]).all p = true := by
  rw [List.all_append, h]
  simp [ho]
end
/-! WalkDp -/
section
open Go Go.RowKit
attribute [local irreducible] wpList wpAnyH Code.wp dOp
set_option maxHeartbeats 1000000 in
set_option maxRecDepth 20000 in
theorem spec_l20Program_c (bR p : Nat) (n : Int) (w : World) (RD : Rd w bR p) (hp : p ≤ 800000) (hn : n ≤ 9223372036854775807) :
    Calls Try.prog 52 #[.pointer (some ⟨bR, 0, none⟩), .int .i64 n] w (Ret fun v w' => ∃ (l : List LCmd) (A1 : Option Addr) (q cap p2 : Nat), v = .slice A1 q cap ∧ q = l.length ∧ q ≤ cap ∧ l.length ≤ 41 ∧ (n ≤ 0 → csB l = true) ∧ p2 ≤ p + 700 ∧ RO (fun i => w.heap.size ≤ i) w' A1 l ∧ Rd w' bR p2 ∧ Mod (fun i => i = bR) w w') := by
 have lbR := RD.lt
 obtain ⟨z0, hz0⟩ : ∃ x, x = w.heap.size := ⟨_, rfl⟩
 refine enter Try.func52 rfl Try.ntmps52 (L := [_,_,_,_,_,_,_,_,_,_,_,_,_,_,_,_,_,_,_,_,_,_,_,_,_,_,_,_,_,_,_,_,_,_,_,_]) rfl ?_
 have G := Mod.refl (fun i => i = bR) w
 refine wp_seq_k fun K1 hK1 => ?_
 refine Sb 36 rfl ?_
 refine Sas rfl ?_
 refine S_nl rfl rfl ?_
 refine th_n (hK1 _ _ ?_)
 clear hK1 K1
 refine wp_seq_k fun K2 hK2 => ?_
 refine Sb 36 rfl ?_
 refine S_bs0 U78 sz104 ?_
 intro b1 w1 fb1 g1 B1
 have lb1 := B1.lt
 replace RD := RD.grow g1
 replace G := G.grow g1
 have zg1 := g1.size
 refine Sas rfl ?_
 refine S_nl rfl rfl ?_
 refine th_n (hK2 _ _ ?_)
 clear hK2 K2
 refine wp_seq_k fun K3 hK3 => ?_
 refine wp_seq_k fun K4 hK4 => ?_
 refine Sb 36 rfl ?_
 refine Smv rfl ?_
 refine S_call rfl en50 (spec_l20Rd_pick_c _ _ _ _ RD (by omega) (by omega)) ?_
 rintro v2 w2 ⟨k2, rfl, hk2, RD2, m2⟩
 obtain ⟨k0, rfl⟩ : ∃ x, x = k2 := ⟨_, rfl⟩
 have hk0 := hk2 (by decide)
 replace RD := RD2
 clear RD2
 replace G := Mod.trans' G m2 (fun _ h _ => h) (fun i h hl => by first | exact h | omega | (dsimp only at h ⊢; omega))
 replace B1 := B1.md m2
 have zm2 := m2.size
 refine Sas rfl ?_
 refine S_nl rfl rfl ?_
 refine th_n (hK4 _ _ ?_)
 clear hK4 K4
 refine wp_block ?_
 have O1 : OW (fun i => w.heap.size ≤ i) w2 104 4 (some ⟨b1, 0, none⟩) 0 0 (flatO []) := OW.of_blk B1 rfl (by decide) (by first | omega | (dsimp only; omega))
 go_loopw [5, 6] (fun u5 u6 wr => (∃ (k q cap pp : Nat) (A1 : Option Addr) (l : List LCmd), u6 = .int .i64 k ∧ u5 = .slice A1 q cap ∧ q = l.length ∧ l.length + k ≤ 40 ∧ l.all cvB = true ∧ pp ≤ p + 1 + 16 * l.length ∧ Rd wr bR pp ∧ OW (fun i => w.heap.size ≤ i) wr 104 4 A1 q cap (flatO l)) ∧ Mod (fun i => i = bR ∨ w.heap.size ≤ i) w2 wr) (fun u5 u6 wr => (intOf u6).toNat)
 case atStart =>
  refine ⟨?_, Mod.refl _ _⟩
  exact ⟨k0, 0, 0, p + 1, _, [], rfl, rfl, rfl, by simp; omega, rfl, by omega, RD, O1⟩
 case round =>
  obtain ⟨w3, rfl⟩ : ∃ x : World, x = wr := ⟨_, rfl⟩
  obtain ⟨hrel, g3⟩ := hrel
  clear O1
  clear RD
  replace G := Mod.trans' G g3 (fun _ h _ => h) (fun i h hl => by first | exact h | omega | (dsimp only at h ⊢; omega))
  have zg3 := g3.size
  obtain ⟨k, q1, cap1, pp, A1, l, rfl, rfl, hq1, hlk, hall, hpp, RD, O1⟩ := hrel
  have GL3 := g3
  refine wp_seq_k fun K5 hK5 => ?_
  refine wp_seq_k fun K6 hK6 => ?_
  refine Sb 36 rfl ?_
  refine Smv rfl ?_
  refine S_val (Y_gtr rfl rfl) ?_
  refine S_nl rfl rfl ?_
  refine th_n (hK6 _ _ ?_)
  clear hK6 K6
  refine S_if rfl (fun hb1 => ?_) (fun hb1 => ?_)
  ·
   replace hb1 := nb_tt hb1
   have hk0 : 0 < k := by omega
   refine wp_skip ?_
   refine th_n (hK5 _ _ ?_)
   clear hK5 K5
   refine wp_seq_k fun K7 hK7 => ?_
   refine wp_block ?_
   refine Sb 36 rfl ?_
   refine Smv rfl ?_
   refine Smv rfl ?_
   refine S_call rfl en75 (spec_l20Command_c _ _ _ _ RD (by omega) (by omega)) ?_
   rintro v4 w4 ⟨o4, p4, rfl, ho4, hp4, RD4, m4⟩
   obtain ⟨oN, rfl⟩ : ∃ x, x = o4 := ⟨_, rfl⟩
   have hoN := ho4
   have hpN := hp4
   replace RD := RD4
   clear RD4
   replace G := Mod.trans' G m4 (fun _ h _ => h) (fun i h hl => by first | exact h | omega | (dsimp only at h ⊢; omega))
   replace GL3 := GL3.trn m4
   replace O1 := O1.md m4
   have zm4 := m4.size
   refine S_bs1 (cs := [_, _, _, _]) U78 zr104 sz104 rfl rfl rfl ?_
   intro b5 w5 fb5 g5 B5
   have lb5 := B5.lt
   replace O1 := O1.grow g5
   replace RD := RD.grow g5
   replace G := G.grow g5
   replace GL3 := GL3.grow g5
   have zg5 := g5.size
   refine S_app U78 zr104 sz104 by104 rfl rfl O1 rfl (Src.blk B5) (by simp [Value.oneCell', cmdC]) (by omega) (Pr' := (fun i => w.heap.size ≤ i)) (fun i hi => by first | exact hi | omega | (dsimp only at hi ⊢; omega)) (by first | omega | (dsimp only; omega)) ?_
   intro A6 cap6 w6 X6 m6
   replace O1 := X6
   clear X6
   replace G := Mod.trans' G m6 (fun _ h _ => h) (fun i h hl => by first | exact h | omega | (dsimp only at h ⊢; omega))
   replace GL3 := GL3.trn m6
   replace RD := RD.md m6
   have zm6 := m6.size
   replace O1 : OW (fun i => w.heap.size ≤ i) w6 104 4 A6 (q1 + 1) cap6 (flatO (l ++ [oN])) := by rw [flatO_last]; exact O1
   refine Sas rfl ?_
   refine S_nl rfl rfl ?_
   refine ib_n ?_
   refine th_n (hK7 _ _ ?_)
   clear hK7 K7
   refine Sb 36 rfl ?_
   refine Smv rfl ?_
   refine S_val (Y_sub (c := ((k - 1 : Nat) : Int)) rfl rfl (by omega) (by omega) (by omega)) ?_
   refine Sas rfl ?_
   refine S_nl rfl rfl ?_
   refine th_n ?_
   go_roundw
   case rel =>
    refine ⟨?_, GL3⟩
    exact ⟨k - 1, _, _, _, _, l ++ [oN], rfl, rfl, by rw [hq1, List.length_append]; rfl, by rw [List.length_append]; simp; omega, all_snoc hall (hoN (by decide)), by rw [List.length_append]; simp; omega, RD, O1⟩
   case measure =>
    exact dec_nat (by omega)
  replace hb1 := nb_tf hb1
  have hcs0 : csB l = true := by unfold csB; rw [decide_eq_true_eq]; exact ⟨by omega, hall⟩
  have hqc := O1.cap
  have hl40 : l.length ≤ 41 := by omega
  obtain ⟨lF, hlF⟩ : ∃ x, x = l := ⟨_, rfl⟩
  rw [← hlF] at hcs0 hl40 O1 hq1
  have hcsF : n ≤ 0 → csB lF = true := fun _ => hcs0
  refine wp_exit ?_
  refine th_x ?_
  try clear GL3
  refine th_x ?_
  refine ib_e ?_
  refine th_n (hK3 _ _ ?_)
  clear hK5 K5 hK3 K3
  refine wp_seq_k fun K8 hK8 => ?_
  refine wp_seq_k fun K9 hK9 => ?_
  refine Sb 36 rfl ?_
  refine Smv rfl ?_
  refine Smv rfl ?_
  refine S_call rfl en53 (spec_l20Rd_odd_c _ _ _ _ RD (by omega) (by omega)) ?_
  rintro v7 w7 ⟨r7, p7, rfl, hr7, hp7, RD7, m7⟩
  obtain ⟨r9, rfl⟩ : ∃ x, x = r7 := ⟨_, rfl⟩
  have hr9 := hr7
  replace RD := RD7
  clear RD7
  replace G := Mod.trans' G m7 (fun _ h _ => h) (fun i h hl => by first | exact h | omega | (dsimp only at h ⊢; omega))
  replace O1 := O1.md m7
  have zm7 := m7.size
  refine S_nl rfl rfl ?_
  refine th_n (hK9 _ _ ?_)
  clear hK9 K9
  refine S_if rfl (fun hb2 => ?_) (fun hb2 => ?_)
  ·
   first | with_reducible (replace hb2 := nb_nt hb2) | with_reducible (replace hb2 := nb_tt hb2) | with_reducible (replace hb2 := nb_bt hb2) | skip
   refine wp_seq_k fun K10 hK10 => ?_
   refine Sb 36 rfl ?_
   refine Smv rfl ?_
   refine S_call rfl en50 (spec_l20Rd_pick_c _ _ _ _ RD (by omega) (by omega)) ?_
   rintro v8 w8 ⟨k8, rfl, hk8, RD8, m8⟩
   obtain ⟨k1, rfl⟩ : ∃ x, x = k8 := ⟨_, rfl⟩
   have hk1 := hk8 (by decide)
   replace RD := RD8
   clear RD8
   replace G := Mod.trans' G m8 (fun _ h _ => h) (fun i h hl => by first | exact h | omega | (dsimp only at h ⊢; omega))
   replace O1 := O1.md m8
   have zm8 := m8.size
   refine S_val (Y_eql rfl rfl) ?_
   refine S_nl rfl rfl ?_
   refine th_n (hK10 _ _ ?_)
   clear hK10 K10
   refine S_if rfl (fun hb3 => ?_) (fun hb3 => ?_)
   ·
    replace hb3 := nb_tt hb3
    refine D_start 10 36 (fun w => Mod (fun i => i = bR ∨ z0 ≤ i) w) follows rfl rfl ?_
    intro w9 g9
    replace O1 := O1.grow g9
    replace RD := RD.grow g9
    replace G := G.grow g9
    have zg9 := g9.size
    have GS9 := Mod.refl (fun i => i = bR ∨ z0 ≤ i) w9
    refine Dq (i := 0) rfl GS9 (fun _ _ => Y_move rfl) ?_
    refine Dq (i := 1) rfl GS9 (fun _ _ => Y_move rfl) ?_
    refine Dq (i := 2) rfl GS9 (fun _ _ => Y_len U78 rfl) ?_
    refine Dq (i := 5) rfl GS9 (fun _ _ => Y_move rfl) ?_
    refine D_2 (i := 3) (j := 6) (by kernel_rfl) ?_ ?_
    ·
     refine E_val (i := 3) rfl (Y_minN (b := 9) rfl rfl) GS9 ?_
     refine Dq (i := 4) rfl GS9 (fun _ _ => Y_sliceH U78 sz104 rfl (j := min q1 9) rfl (by omega)) ?_
     refine D_1 (i := 6) (by kernel_rfl) ?_
     refine E_call rfl rfl en75 (spec_l20Command_c _ _ _ _ RD (by omega) (by omega)) ?_
     rintro v11 w11 ⟨o11, p11, rfl, ho11, hp11, RD11, m11⟩
     obtain ⟨oN, rfl⟩ : ∃ x, x = o11 := ⟨_, rfl⟩
     have hoN := ho11
     have hpN := hp11
     replace RD := RD11
     clear RD11
     replace G := Mod.trans' G m11 (fun _ h _ => h) (fun i h hl => by first | exact h | omega | (dsimp only at h ⊢; omega))
     replace GS9 := GS9.trn m11
     replace O1 := O1.md m11
     have zm11 := m11.size
     refine ⟨GS9, ?_⟩
     refine D_1 (i := 7) (by kernel_rfl) ?_
     refine E_bs1 (cs := [_, _, _, _]) (i := 7) rfl U78 zr104 sz104 rfl rfl rfl ?_
     intro b12 w12 fb12 g12 B12
     refine ⟨GS9.grow g12, ?_⟩
     have lb12 := B12.lt
     replace O1 := O1.grow g12
     replace RD := RD.grow g12
     replace G := G.grow g12
     replace GS9 := GS9.grow g12
     have zg12 := g12.size
     refine D_1 (i := 8) (by kernel_rfl) ?_
     refine E_app (i := 8) rfl U78 zr104 sz104 by104 rfl rfl (O1.pop (m := min q1 9) (by omega)) rfl (Src.blk B12) (by simp [Value.oneCell', cmdC]) (by omega) (Pr' := (fun i => w.heap.size ≤ i)) (fun i hi => by first | exact hi | omega | (dsimp only at hi ⊢; omega)) (by first | omega | (dsimp only; omega)) ?_
     intro A13 cap13 w13 X13 m13
     replace O1 := X13
     clear X13
     replace G := Mod.trans' G m13 (fun _ h _ => h) (fun i h hl => by first | exact h | omega | (dsimp only at h ⊢; omega))
     replace GS9 := GS9.trn m13
     replace RD := RD.md m13
     have zm13 := m13.size
     rw [flatO_take] at O1
     replace O1 : OW (fun i => w.heap.size ≤ i) w13 104 4 A13 (min q1 9 + 1) cap13 (flatO (lF.take (min q1 9) ++ [oN])) := by rw [flatO_last]; exact O1
     have hl41 : (lF.take (min q1 9) ++ [oN]).length = min q1 9 + 1 := by rw [List.length_append, List.length_take]; simp; omega
     refine ⟨GS9, ?_⟩
     refine Dq (i := 9) rfl GS9 (fun _ _ => Y_assign rfl) ?_
     refine D_en (by kernel_rfl) rfl rfl ?_
     refine th_n (hK8 _ _ ?_)
     clear hK8 K8
     refine wp_seq_k fun K11 hK11 => ?_
     refine Sb 36 rfl ?_
     refine Smv rfl ?_
     refine Sas rfl ?_
     refine S_nl rfl rfl ?_
     refine th_n (hK11 _ _ ?_)
     clear hK11 K11
     refine wp_ret ?_
     refine ret_r1 rfl rfl ?_
     first | exact ⟨lF, _, _, _, _, rfl, hq1, hqc, hl40, hcsF, by omega, RO.of_ow O1, RD, G⟩ | exact ⟨_, _, _, _, _, rfl, by rw [hl41], O1.cap, by omega, fun h => by (have h9 := hr9 h; rw [h9] at hb2; cases hb2), by omega, RO.of_ow O1, RD, G⟩ | exact ⟨List.replicate 41 ⟨0, 0, 0, 0⟩, _, _, _, _, rfl, by simp, by omega, by simp, fun h => by (have h9 := hr9 h; rw [h9] at hb2; cases hb2), by omega, hRO, RD, G⟩
    refine E_call rfl rfl en75 (spec_l20Command_c _ _ _ _ RD (by omega) (by omega)) ?_
    rintro v14 w14 ⟨o14, p14, rfl, ho14, hp14, RD14, m14⟩
    obtain ⟨oN, rfl⟩ : ∃ x, x = o14 := ⟨_, rfl⟩
    have hoN := ho14
    have hpN := hp14
    replace RD := RD14
    clear RD14
    replace G := Mod.trans' G m14 (fun _ h _ => h) (fun i h hl => by first | exact h | omega | (dsimp only at h ⊢; omega))
    replace GS9 := GS9.trn m14
    replace O1 := O1.md m14
    have zm14 := m14.size
    refine ⟨GS9, ?_⟩
    refine D_2 (i := 3) (j := 7) (by kernel_rfl) ?_ ?_
    ·
     refine E_val (i := 3) rfl (Y_minN (b := 9) rfl rfl) GS9 ?_
     refine Dq (i := 4) rfl GS9 (fun _ _ => Y_sliceH U78 sz104 rfl (j := min q1 9) rfl (by omega)) ?_
     refine D_1 (i := 7) (by kernel_rfl) ?_
     refine E_bs1 (cs := [_, _, _, _]) (i := 7) rfl U78 zr104 sz104 rfl rfl rfl ?_
     intro b16 w16 fb16 g16 B16
     refine ⟨GS9.grow g16, ?_⟩
     have lb16 := B16.lt
     replace O1 := O1.grow g16
     replace RD := RD.grow g16
     replace G := G.grow g16
     replace GS9 := GS9.grow g16
     have zg16 := g16.size
     refine D_1 (i := 8) (by kernel_rfl) ?_
     refine E_app (i := 8) rfl U78 zr104 sz104 by104 rfl rfl (O1.pop (m := min q1 9) (by omega)) rfl (Src.blk B16) (by simp [Value.oneCell', cmdC]) (by omega) (Pr' := (fun i => w.heap.size ≤ i)) (fun i hi => by first | exact hi | omega | (dsimp only at hi ⊢; omega)) (by first | omega | (dsimp only; omega)) ?_
     intro A17 cap17 w17 X17 m17
     replace O1 := X17
     clear X17
     replace G := Mod.trans' G m17 (fun _ h _ => h) (fun i h hl => by first | exact h | omega | (dsimp only at h ⊢; omega))
     replace GS9 := GS9.trn m17
     replace RD := RD.md m17
     have zm17 := m17.size
     rw [flatO_take] at O1
     replace O1 : OW (fun i => w.heap.size ≤ i) w17 104 4 A17 (min q1 9 + 1) cap17 (flatO (lF.take (min q1 9) ++ [oN])) := by rw [flatO_last]; exact O1
     have hl41 : (lF.take (min q1 9) ++ [oN]).length = min q1 9 + 1 := by rw [List.length_append, List.length_take]; simp; omega
     refine ⟨GS9, ?_⟩
     refine Dq (i := 9) rfl GS9 (fun _ _ => Y_assign rfl) ?_
     refine D_en (by kernel_rfl) rfl rfl ?_
     refine th_n (hK8 _ _ ?_)
     clear hK8 K8
     refine wp_seq_k fun K12 hK12 => ?_
     refine Sb 36 rfl ?_
     refine Smv rfl ?_
     refine Sas rfl ?_
     refine S_nl rfl rfl ?_
     refine th_n (hK12 _ _ ?_)
     clear hK12 K12
     refine wp_ret ?_
     refine ret_r1 rfl rfl ?_
     first | exact ⟨lF, _, _, _, _, rfl, hq1, hqc, hl40, hcsF, by omega, RO.of_ow O1, RD, G⟩ | exact ⟨_, _, _, _, _, rfl, by rw [hl41], O1.cap, by omega, fun h => by (have h9 := hr9 h; rw [h9] at hb2; cases hb2), by omega, RO.of_ow O1, RD, G⟩ | exact ⟨List.replicate 41 ⟨0, 0, 0, 0⟩, _, _, _, _, rfl, by simp, by omega, by simp, fun h => by (have h9 := hr9 h; rw [h9] at hb2; cases hb2), by omega, hRO, RD, G⟩
    refine E_bs1 (cs := [_, _, _, _]) (i := 7) rfl U78 zr104 sz104 rfl rfl rfl ?_
    intro b18 w18 fb18 g18 B18
    refine ⟨GS9.grow g18, ?_⟩
    have lb18 := B18.lt
    replace O1 := O1.grow g18
    replace RD := RD.grow g18
    replace G := G.grow g18
    replace GS9 := GS9.grow g18
    have zg18 := g18.size
    refine D_1 (i := 3) (by kernel_rfl) ?_
    refine E_val (i := 3) rfl (Y_minN (b := 9) rfl rfl) GS9 ?_
    refine Dq (i := 4) rfl GS9 (fun _ _ => Y_sliceH U78 sz104 rfl (j := min q1 9) rfl (by omega)) ?_
    refine D_1 (i := 8) (by kernel_rfl) ?_
    refine E_app (i := 8) rfl U78 zr104 sz104 by104 rfl rfl (O1.pop (m := min q1 9) (by omega)) rfl (Src.blk B18) (by simp [Value.oneCell', cmdC]) (by omega) (Pr' := (fun i => w.heap.size ≤ i)) (fun i hi => by first | exact hi | omega | (dsimp only at hi ⊢; omega)) (by first | omega | (dsimp only; omega)) ?_
    intro A20 cap20 w20 X20 m20
    replace O1 := X20
    clear X20
    replace G := Mod.trans' G m20 (fun _ h _ => h) (fun i h hl => by first | exact h | omega | (dsimp only at h ⊢; omega))
    replace GS9 := GS9.trn m20
    replace RD := RD.md m20
    have zm20 := m20.size
    rw [flatO_take] at O1
    replace O1 : OW (fun i => w.heap.size ≤ i) w20 104 4 A20 (min q1 9 + 1) cap20 (flatO (lF.take (min q1 9) ++ [oN])) := by rw [flatO_last]; exact O1
    have hl41 : (lF.take (min q1 9) ++ [oN]).length = min q1 9 + 1 := by rw [List.length_append, List.length_take]; simp; omega
    refine ⟨GS9, ?_⟩
    refine Dq (i := 9) rfl GS9 (fun _ _ => Y_assign rfl) ?_
    refine D_en (by kernel_rfl) rfl rfl ?_
    refine th_n (hK8 _ _ ?_)
    clear hK8 K8
    refine wp_seq_k fun K13 hK13 => ?_
    refine Sb 36 rfl ?_
    refine Smv rfl ?_
    refine Sas rfl ?_
    refine S_nl rfl rfl ?_
    refine th_n (hK13 _ _ ?_)
    clear hK13 K13
    refine wp_ret ?_
    refine ret_r1 rfl rfl ?_
    first | exact ⟨lF, _, _, _, _, rfl, hq1, hqc, hl40, hcsF, by omega, RO.of_ow O1, RD, G⟩ | exact ⟨_, _, _, _, _, rfl, by rw [hl41], O1.cap, by omega, fun h => by (have h9 := hr9 h; rw [h9] at hb2; cases hb2), by omega, RO.of_ow O1, RD, G⟩ | exact ⟨List.replicate 41 ⟨0, 0, 0, 0⟩, _, _, _, _, rfl, by simp, by omega, by simp, fun h => by (have h9 := hr9 h; rw [h9] at hb2; cases hb2), by omega, hRO, RD, G⟩
   replace hb3 := nb_tf hb3
   refine Sb 36 rfl ?_
   refine S_make (n := 41) (l := 41) (z := cmdC ⟨0, 0, 0, 0⟩) U78 zr104 sz104 by104 rfl rfl (by omega) (by omega) (by omega) ?_
   intro b21 w21 fb21 g21 B21
   have lb21 := B21.lt
   replace O1 := O1.grow g21
   replace RD := RD.grow g21
   replace G := G.grow g21
   have zg21 := g21.size
   rw [← flatO_rep] at B21
   have hRO : RO (fun i => w.heap.size ≤ i) w21 (some ⟨b21, 0, none⟩) (List.replicate 41 ⟨0, 0, 0, 0⟩) := RO.of_blk0 B21 (by omega)
   refine Sas rfl ?_
   refine S_nl rfl rfl ?_
   refine th_n (hK8 _ _ ?_)
   clear hK8 K8
   refine wp_seq_k fun K14 hK14 => ?_
   refine Sb 36 rfl ?_
   refine Smv rfl ?_
   refine Sas rfl ?_
   refine S_nl rfl rfl ?_
   refine th_n (hK14 _ _ ?_)
   clear hK14 K14
   refine wp_ret ?_
   refine ret_r1 rfl rfl ?_
   first | exact ⟨lF, _, _, _, _, rfl, hq1, hqc, hl40, hcsF, by omega, RO.of_ow O1, RD, G⟩ | exact ⟨_, _, _, _, _, rfl, by rw [hl41], O1.cap, by omega, fun h => by (have h9 := hr9 h; rw [h9] at hb2; cases hb2), by omega, RO.of_ow O1, RD, G⟩ | exact ⟨List.replicate 41 ⟨0, 0, 0, 0⟩, _, _, _, _, rfl, by simp, by omega, by simp, fun h => by (have h9 := hr9 h; rw [h9] at hb2; cases hb2), by omega, hRO, RD, G⟩
  first | with_reducible (replace hb2 := nb_nf hb2) | with_reducible (replace hb2 := nb_tf hb2) | with_reducible (replace hb2 := nb_bf hb2) | skip
  refine wp_skip ?_
  refine th_n (hK8 _ _ ?_)
  clear hK8 K8
  refine wp_seq_k fun K15 hK15 => ?_
  refine Sb 36 rfl ?_
  refine Smv rfl ?_
  refine Sas rfl ?_
  refine S_nl rfl rfl ?_
  refine th_n (hK15 _ _ ?_)
  clear hK15 K15
  refine wp_ret ?_
  refine ret_r1 rfl rfl ?_
  first | exact ⟨lF, _, _, _, _, rfl, hq1, hqc, hl40, hcsF, by omega, RO.of_ow O1, RD, G⟩ | exact ⟨_, _, _, _, _, rfl, by rw [hl41], O1.cap, by omega, fun h => by (have h9 := hr9 h; rw [h9] at hb2; cases hb2), by omega, RO.of_ow O1, RD, G⟩ | exact ⟨List.replicate 41 ⟨0, 0, 0, 0⟩, _, _, _, _, rfl, by simp, by omega, by simp, fun h => by (have h9 := hr9 h; rw [h9] at hb2; cases hb2), by omega, hRO, RD, G⟩
end
/-! WalkS -/
section
open Go Go.RowKit
attribute [local irreducible] wpList wpAnyH Code.wp dOp
set_option maxHeartbeats 400000 in
set_option maxRecDepth 20000 in
theorem impl_numbersIn_c (Pr : Nat → Prop) (E : Option Addr) (o : List Int) (e N : Nat) (w : World) (hE : R1 Pr w E (ints o)) (hb : Bnd N o) (hN : N ≤ 1048576) :
    Calls Try.prog 64 #[.slice E o.length e, .int .i64 (N : Int)] w (Ret fun v w' => ∃ b, v = .slice (some ⟨b, 0, none⟩) N N ∧ w.heap.size ≤ b ∧ Blk w' b 3 (ints (namesL N o)).toArray ∧ Grow w w') := by
 have hlen := hb.len
 refine enter Try.func64 rfl Try.ntmps64 (L := [_,_,_,_,_,_,_,_,_,_,_,_,_,_,_,_,_,_,_,_,_,_,_,_,_,_,_,_,_,_,_,_,_]) rfl ?_
 have G := Mod.refl No w
 have hE0 := hE
 refine wp_seq_k fun K1 hK1 => ?_
 refine Sb 33 rfl ?_
 refine Sas rfl ?_
 refine S_nl rfl rfl ?_
 refine th_n (hK1 _ _ ?_)
 clear hK1 K1
 refine wp_seq_k fun K2 hK2 => ?_
 refine Sb 33 rfl ?_
 refine Smv rfl ?_
 refine S_make (z := [.int .i64 0]) U24 zr3 sz3 by3 rfl rfl (by omega) (by omega) (by omega) ?_
 intro b1 w1 fb1 g1 B1
 have lb1 := B1.lt
 replace hE := hE.grow g1
 replace G := G.grow g1
 have zg1 := g1.size
 refine Sas rfl ?_
 refine S_nl rfl rfl ?_
 refine th_n (hK2 _ _ ?_)
 clear hK2 K2
 refine wp_seq_k fun K3 hK3 => ?_
 refine wp_seq_k fun K4 hK4 => ?_
 refine Sb 33 rfl ?_
 refine Smv rfl ?_
 refine S_val (Y_len U24 rfl) ?_
 refine Smv rfl ?_
 refine S_nl rfl rfl ?_
 refine th_n (hK4 _ _ ?_)
 clear hK4 K4
 refine wp_block ?_
 go_loopw [13] (fun u13 wr => (∃ k : Nat, u13 = .int .i64 k ∧ k ≤ N ∧ Blk wr b1 3 (List.replicate k (Value.int .i64 (-1)) ++ zeros [.int .i64 0] (N - k)).toArray) ∧ Mod (fun i => i = b1) w1 wr) (fun u13 wr => N - (intOf u13).toNat)
 case atStart =>
  refine ⟨?_, Mod.refl _ _⟩
  exact ⟨0, rfl, by omega, by simpa using B1⟩
 case round =>
  obtain ⟨w2, rfl⟩ : ∃ x : World, x = wr := ⟨_, rfl⟩
  obtain ⟨hrel, g2⟩ := hrel
  clear B1
  replace G := G.abv g2
  replace hE := hE0.grow G
  have zg2 := g2.size
  obtain ⟨k, rfl, hk, B1⟩ := hrel
  have GL2 := g2
  refine wp_seq_k fun K5 hK5 => ?_
  refine Sb 33 rfl ?_
  refine S_val (Y_lss rfl rfl) ?_
  refine S_nl rfl rfl ?_
  refine th_n (hK5 _ _ ?_)
  clear hK5 K5
  refine wp_seq_k fun K6 hK6 => ?_
  refine S_if rfl (fun hb1 => ?_) (fun hb1 => ?_)
  ·
   replace hb1 := nb_tt hb1
   have hk1 : k < N := by omega
   rw [zeros_pos (by omega)] at B1
   refine wp_skip ?_
   refine th_n (hK6 _ _ ?_)
   clear hK6 K6
   refine wp_seq_k fun K7 hK7 => ?_
   refine wp_block ?_
   refine wp_seq_k fun K8 hK8 => ?_
   refine Sb 33 rfl ?_
   refine Smv rfl ?_
   refine Sas rfl ?_
   refine S_nl rfl rfl ?_
   refine th_n (hK8 _ _ ?_)
   clear hK8 K8
   refine Sb 33 rfl ?_
   refine Smv rfl ?_
   refine Smv rfl ?_
   refine S_val (Y_index U24 sz3 rfl rfl (by first | assumption | omega)) ?_
   refine S_stM (pre := List.replicate k (Value.int .i64 (-1))) (old := [.int .i64 0]) (post := zeros [.int .i64 0] (N - k - 1)) (vs := [_]) sz3 rfl rfl rfl rfl (by rw [List.append_assoc]; exact B1) (by simp) rfl ?_
   intro w3 m3 X3
   replace B1 := Blk.eq X3 (fill_step hk1)
   clear X3
   replace G := G.abv m3
   replace GL2 := GL2.trn m3
   replace hE := hE0.grow G
   have zm3 := m3.size
   refine S_nl rfl rfl ?_
   refine ib_n ?_
   refine th_n (hK7 _ _ ?_)
   clear hK7 K7
   refine Sb 33 rfl ?_
   refine S_val (Y_inc rfl rfl (by omega)) ?_
   refine Smv rfl ?_
   refine S_nl rfl rfl ?_
   refine th_n ?_
   go_roundw
   case rel =>
    refine ⟨?_, GL2⟩
    exact ⟨k + 1, rfl, by omega, B1⟩
   case measure =>
    exact dec_nat (by omega)
  replace hb1 := nb_tf hb1
  refine wp_exit ?_
  refine th_x ?_
  try clear GL2
  refine th_x ?_
  refine ib_e ?_
  refine th_n (hK3 _ _ ?_)
  clear hK6 K6 hK3 K3
  refine wp_seq_k fun K9 hK9 => ?_
  refine wp_seq_k fun K10 hK10 => ?_
  refine Sb 33 rfl ?_
  refine Smv rfl ?_
  refine S_val (Y_len U24 rfl) ?_
  refine Smv rfl ?_
  refine S_nl rfl rfl ?_
  refine th_n (hK10 _ _ ?_)
  clear hK10 K10
  refine wp_block ?_
  have hkN : k = N := by omega
  rw [hkN, Nat.sub_self] at B1
  replace B1 := Blk.eq B1 (show _ = ints (namesL N []) by rw [namesL_nil, ints_rep]; simp [zeros])
  go_loopw [22] (fun u22 wr => (∃ k : Nat, u22 = .int .i64 k ∧ k ≤ o.length ∧ Blk wr b1 3 (ints (namesL N (o.take k))).toArray) ∧ Mod (fun i => i = b1) w2 wr) (fun u22 wr => o.length - (intOf u22).toNat)
  case atStart =>
   refine ⟨?_, Mod.refl _ _⟩
   exact ⟨0, rfl, by omega, by simpa using B1⟩
  case round =>
   obtain ⟨w4, rfl⟩ : ∃ x : World, x = wr := ⟨_, rfl⟩
   obtain ⟨hrel, g4⟩ := hrel
   clear B1
   replace G := G.abv g4
   replace hE := hE0.grow G
   have zg4 := g4.size
   obtain ⟨k, rfl, hk, B1⟩ := hrel
   have GL4 := g4
   refine wp_seq_k fun K11 hK11 => ?_
   refine Sb 33 rfl ?_
   refine S_val (Y_lss rfl rfl) ?_
   refine S_nl rfl rfl ?_
   refine th_n (hK11 _ _ ?_)
   clear hK11 K11
   refine wp_seq_k fun K12 hK12 => ?_
   refine S_if rfl (fun hb2 => ?_) (fun hb2 => ?_)
   ·
    replace hb2 := nb_tt hb2
    have hk1 : k < o.length := by omega
    obtain ⟨n, hn, hnN, hng⟩ := bnd_at hb hk1
    obtain ⟨g2, o2, rfl, hp2, hc2⟩ := hE.int hk1
    rw [hn] at hc2
    have hnot := take_notMem hb hk1 hn
    have htk := List.take_succ_eq_append_getElem hk1
    rw [hn] at htk
    refine wp_skip ?_
    refine th_n (hK12 _ _ ?_)
    clear hK12 K12
    refine wp_seq_k fun K13 hK13 => ?_
    refine wp_block ?_
    refine wp_seq_k fun K14 hK14 => ?_
    refine Sb 33 rfl ?_
    refine Smv rfl ?_
    refine S_val (Y_index U24 sz3 rfl rfl (by first | assumption | omega)) ?_
    refine S_val (Y_load U3 rfl rfl (by first | assumption | exact B1.at (by rfl))) ?_
    refine Sas rfl ?_
    refine Sas rfl ?_
    refine S_nl rfl rfl ?_
    refine th_n (hK14 _ _ ?_)
    clear hK14 K14
    refine Sb 33 rfl ?_
    refine Smv rfl ?_
    refine Smv rfl ?_
    refine Smv rfl ?_
    refine S_val (Y_index U24 sz3 rfl rfl (by first | assumption | omega)) ?_
    refine S_stM (pre := (ints (namesL N (o.take k))).take n) (old := [.int .i64 (nameIn (o.take k) (n : Int))]) (post := (ints (namesL N (o.take k))).drop (n + 1)) (vs := [_]) sz3 rfl rfl rfl rfl (by rw [← namesL_split hnN]; exact B1) (by rw [List.length_take, ints_len, namesL_len]; omega) rfl ?_
    intro w5 m5 X5
    replace B1 := Blk.eq X5 (show _ = ints (namesL N (o.take k ++ [(n : Int)])) by have hns := namesL_set hnN hnot; rw [List.length_take, Nat.min_eq_left hk] at hns; exact hns)
    clear X5
    replace G := G.abv m5
    replace GL4 := GL4.trn m5
    replace hE := hE0.grow G
    have zm5 := m5.size
    refine S_nl rfl rfl ?_
    refine ib_n ?_
    refine th_n (hK13 _ _ ?_)
    clear hK13 K13
    refine Sb 33 rfl ?_
    refine S_val (Y_inc rfl rfl (by omega)) ?_
    refine Smv rfl ?_
    refine S_nl rfl rfl ?_
    refine th_n ?_
    go_roundw
    case rel =>
     refine ⟨?_, GL4⟩
     exact ⟨k + 1, rfl, by omega, by rw [htk]; exact B1⟩
    case measure =>
     exact dec_nat (by omega)
   replace hb2 := nb_tf hb2
   refine wp_exit ?_
   refine th_x ?_
   try clear GL4
   refine th_x ?_
   refine ib_e ?_
   refine th_n (hK9 _ _ ?_)
   clear hK12 K12 hK9 K9
   refine wp_seq_k fun K15 hK15 => ?_
   refine Sb 33 rfl ?_
   refine Smv rfl ?_
   refine Sas rfl ?_
   refine S_nl rfl rfl ?_
   refine th_n (hK15 _ _ ?_)
   clear hK15 K15
   refine wp_ret ?_
   refine ret_r1 rfl rfl ?_
   rw [List.take_of_length_le (by omega)] at B1
   exact ⟨b1, rfl, by omega, B1, G⟩
set_option maxHeartbeats 400000 in
set_option maxRecDepth 20000 in
theorem impl_renamed_c (Pr Pr2 : Nat → Prop) (E F : Option Addr) (xs o : List Int) (e f N : Nat) (w : World) (hE : R1 Pr w E (ints xs)) (hF : R1 Pr2 w F (ints (namesL N o))) (hx : xs.length ≤ 1048576) (hr : ∀ x ∈ xs, x = -1 ∨ (0 ≤ x ∧ x < (N : Int))) (ho : ∀ x ∈ o, 0 ≤ x) :
    Calls Try.prog 65 #[.slice E xs.length e, .slice F N f] w (Ret fun v w' => ∃ A q cap, v = .slice A q cap ∧ q = xs.length ∧ OW (fun i => w.heap.size ≤ i) w' 3 1 A q cap (ints (xs.map (nameIn o))) ∧ Grow w w') := by
 refine enter Try.func65 rfl Try.ntmps65 (L := [_,_,_,_,_,_,_,_,_,_,_,_,_,_,_,_,_,_,_,_,_,_,_,_,_,_,_]) rfl ?_
 have G := Mod.refl No w
 have hE0 := hE
 have hF0 := hF
 refine wp_seq_k fun K1 hK1 => ?_
 refine Sb 27 rfl ?_
 refine Sas rfl ?_
 refine S_nl rfl rfl ?_
 refine th_n (hK1 _ _ ?_)
 clear hK1 K1
 refine wp_seq_k fun K2 hK2 => ?_
 refine Sb 27 rfl ?_
 refine S_bs0 U24 sz3 ?_
 intro b1 w1 fb1 g1 B1
 have lb1 := B1.lt
 replace hE := hE.grow g1
 replace hF := hF.grow g1
 replace G := G.grow g1
 have zg1 := g1.size
 refine Sas rfl ?_
 refine S_nl rfl rfl ?_
 refine th_n (hK2 _ _ ?_)
 clear hK2 K2
 refine wp_seq_k fun K3 hK3 => ?_
 refine wp_seq_k fun K4 hK4 => ?_
 refine Sb 27 rfl ?_
 refine Smv rfl ?_
 refine S_val (Y_len U24 rfl) ?_
 refine Smv rfl ?_
 refine S_nl rfl rfl ?_
 refine th_n (hK4 _ _ ?_)
 clear hK4 K4
 refine wp_block ?_
 have O1 : OW (fun i => w.heap.size ≤ i) w1 3 1 (some ⟨b1, 0, none⟩) 0 0 (ints []) := OW.of_blk B1 rfl (by decide) (by omega)
 go_loopw [5, 11] (fun u5 u11 wr => (∃ (k q cap : Nat) (A1 : Option Addr), u11 = .int .i64 k ∧ u5 = .slice A1 q cap ∧ k ≤ xs.length ∧ q = k ∧ OW (fun i => w.heap.size ≤ i) wr 3 1 A1 q cap (ints ((xs.take k).map (nameIn o)))) ∧ Mod (fun i => w.heap.size ≤ i) w1 wr) (fun u5 u11 wr => xs.length - (intOf u11).toNat)
 case atStart =>
  refine ⟨?_, Mod.refl _ _⟩
  exact ⟨0, 0, 0, _, rfl, rfl, by omega, rfl, O1⟩
 case round =>
  obtain ⟨w2, rfl⟩ : ∃ x : World, x = wr := ⟨_, rfl⟩
  obtain ⟨hrel, g2⟩ := hrel
  clear O1
  replace G := G.abv g2
  replace hE := hE0.grow G
  replace hF := hF0.grow G
  have zg2 := g2.size
  obtain ⟨k, q1, cap1, A1, rfl, rfl, hk, hq1, O1⟩ := hrel
  have GL2 := g2
  refine wp_seq_k fun K5 hK5 => ?_
  refine Sb 27 rfl ?_
  refine S_val (Y_lss rfl rfl) ?_
  refine S_nl rfl rfl ?_
  refine th_n (hK5 _ _ ?_)
  clear hK5 K5
  refine wp_seq_k fun K6 hK6 => ?_
  refine S_if rfl (fun hb1 => ?_) (fun hb1 => ?_)
  ·
   replace hb1 := nb_tt hb1
   have hk1 : k < xs.length := by omega
   obtain ⟨g2, o2, rfl, hp2, hc2⟩ := hE.int hk1
   have htk := List.take_succ_eq_append_getElem hk1
   refine wp_skip ?_
   refine th_n (hK6 _ _ ?_)
   clear hK6 K6
   refine wp_seq_k fun K7 hK7 => ?_
   refine wp_block ?_
   refine wp_seq_k fun K8 hK8 => ?_
   refine Sb 27 rfl ?_
   refine S_val (Y_index U24 sz3 rfl rfl (by first | assumption | omega)) ?_
   refine S_val (Y_load U3 rfl rfl (by first | assumption)) ?_
   refine Sas rfl ?_
   refine S_nl rfl rfl ?_
   refine th_n (hK8 _ _ ?_)
   clear hK8 K8
   refine wp_seq_k fun K9 hK9 => ?_
   refine wp_seq_k fun K10 hK10 => ?_
   refine Sb 27 rfl ?_
   refine Smv rfl ?_
   refine S_val (Y_geq rfl rfl) ?_
   refine S_nl rfl rfl ?_
   refine th_n (hK10 _ _ ?_)
   clear hK10 K10
   refine S_if rfl (fun hb2 => ?_) (fun hb2 => ?_)
   ·
    replace hb2 := nb_tt hb2
    obtain ⟨n, hn⟩ := Int.eq_ofNat_of_zero_le hb2
    have hnN : n < N := by have := hr _ (List.getElem_mem hk1); omega
    rw [hn]
    rw [hn] at htk
    obtain ⟨g3, o3, rfl, hp3, hc3⟩ := hF.int (k := n) (by rw [namesL_len]; exact hnN)
    rw [namesL_at] at hc3
    refine Sb 27 rfl ?_
    refine Smv rfl ?_
    refine Smv rfl ?_
    refine S_val (Y_index U24 sz3 rfl rfl (by first | assumption | omega)) ?_
    refine S_val (Y_load U3 rfl rfl (by first | assumption)) ?_
    refine Sas rfl ?_
    refine S_nl rfl rfl ?_
    refine th_n (hK9 _ _ ?_)
    clear hK9 K9
    refine Sb 27 rfl ?_
    refine Smv rfl ?_
    refine Smv rfl ?_
    refine S_bs1 (cs := [_]) U24 zr3 sz3 rfl rfl rfl ?_
    intro b3 w3 fb3 g3 B3
    have lb3 := B3.lt
    replace hE := hE.grow g3
    replace hF := hF.grow g3
    replace O1 := O1.grow g3
    replace G := G.grow g3
    replace GL2 := GL2.grow g3
    have zg3 := g3.size
    refine S_app U24 zr3 sz3 by3 rfl rfl O1 rfl (Src.blk B3) (by simp [Value.oneCell']) (by omega) (Pr' := fun i => w.heap.size ≤ i) (fun i hi => hi) (by omega) ?_
    intro A4 cap4 w4 X4 m4
    replace O1 := X4
    rw [ints_app] at O1
    clear X4
    replace G := G.abv m4
    replace GL2 := GL2.trn m4
    replace hE := hE0.grow G
    replace hF := hF0.grow G
    have zm4 := m4.size
    refine Sas rfl ?_
    refine S_nl rfl rfl ?_
    refine ib_n ?_
    refine th_n (hK7 _ _ ?_)
    clear hK7 K7
    refine Sb 27 rfl ?_
    refine S_val (Y_inc rfl rfl (by omega)) ?_
    refine Smv rfl ?_
    refine S_nl rfl rfl ?_
    refine th_n ?_
    go_roundw
    case rel =>
     refine ⟨?_, GL2⟩
     exact ⟨k + 1, _, _, _, rfl, rfl, by omega, by omega, by rw [htk, List.map_append]; exact O1⟩
    case measure =>
     exact dec_nat (by omega)
   replace hb2 := nb_tf hb2
   have hm1 : xs[k] = -1 := by have := hr _ (List.getElem_mem hk1); omega
   have hno : nameIn o (-1) = -1 := nameIn_no (fun hm => by have := ho _ hm; omega)
   rw [hm1]
   rw [hm1] at htk
   refine wp_skip ?_
   refine th_n (hK9 _ _ ?_)
   clear hK9 K9
   refine Sb 27 rfl ?_
   refine Smv rfl ?_
   refine Smv rfl ?_
   refine S_bs1 (cs := [_]) U24 zr3 sz3 rfl rfl rfl ?_
   intro b5 w5 fb5 g5 B5
   have lb5 := B5.lt
   replace hE := hE.grow g5
   replace hF := hF.grow g5
   replace O1 := O1.grow g5
   replace G := G.grow g5
   replace GL2 := GL2.grow g5
   have zg5 := g5.size
   refine S_app U24 zr3 sz3 by3 rfl rfl O1 rfl (Src.blk B5) (by simp [Value.oneCell']) (by omega) (Pr' := fun i => w.heap.size ≤ i) (fun i hi => hi) (by omega) ?_
   intro A6 cap6 w6 X6 m6
   replace O1 := X6
   rw [ints_app] at O1
   clear X6
   replace G := G.abv m6
   replace GL2 := GL2.trn m6
   replace hE := hE0.grow G
   replace hF := hF0.grow G
   have zm6 := m6.size
   refine Sas rfl ?_
   refine S_nl rfl rfl ?_
   refine ib_n ?_
   refine th_n (hK7 _ _ ?_)
   clear hK7 K7
   refine Sb 27 rfl ?_
   refine S_val (Y_inc rfl rfl (by omega)) ?_
   refine Smv rfl ?_
   refine S_nl rfl rfl ?_
   refine th_n ?_
   go_roundw
   case rel =>
    refine ⟨?_, GL2⟩
    exact ⟨k + 1, _, _, _, rfl, rfl, by omega, by omega, by rw [htk, List.map_append, List.map_singleton, hno]; exact O1⟩
   case measure =>
    exact dec_nat (by omega)
  replace hb1 := nb_tf hb1
  refine wp_exit ?_
  refine th_x ?_
  try clear GL2
  refine th_x ?_
  refine ib_e ?_
  refine th_n (hK3 _ _ ?_)
  clear hK6 K6 hK3 K3
  refine wp_seq_k fun K11 hK11 => ?_
  refine Sb 27 rfl ?_
  refine Smv rfl ?_
  refine Sas rfl ?_
  refine S_nl rfl rfl ?_
  refine th_n (hK11 _ _ ?_)
  clear hK11 K11
  refine wp_ret ?_
  refine ret_r1 rfl rfl ?_
  have : k = xs.length := by omega
  subst this
  rw [List.take_length] at O1
  exact ⟨_, _, _, rfl, hq1, O1, G⟩
set_option maxHeartbeats 400000 in
set_option maxRecDepth 20000 in
theorem impl_sameInts_c (P1 P2 : Nat → Prop) (A B : Option Addr) (xs ys : List Int) (c d : Nat) (w : World) (hA : R1 P1 w A (ints xs)) (hB : R1 P2 w B (ints ys)) (hx : xs.length ≤ 9223372036854775807) :
    Calls Try.prog 37 #[.slice A xs.length c, .slice B ys.length d] w (Ret fun v w' => v = .bool (decide (xs = ys)) ∧ Grow w w') := by
 refine enter Try.func37 rfl Try.ntmps37 (L := [_,_,_,_,_,_,_,_,_,_,_,_,_,_,_,_,_,_,_,_,_,_,_,_,_,_]) rfl ?_
 have G := Mod.refl No w
 have hA0 := hA
 have hB0 := hB
 refine wp_seq_k fun K1 hK1 => ?_
 refine Sb 26 rfl ?_
 refine Sas rfl ?_
 refine S_nl rfl rfl ?_
 refine th_n (hK1 _ _ ?_)
 clear hK1 K1
 refine wp_seq_k fun K2 hK2 => ?_
 refine wp_seq_k fun K3 hK3 => ?_
 refine Sb 26 rfl ?_
 refine Smv rfl ?_
 refine S_val (Y_len U24 rfl) ?_
 refine Smv rfl ?_
 refine S_val (Y_len U24 rfl) ?_
 refine S_val (Y_neq rfl rfl) ?_
 refine S_nl rfl rfl ?_
 refine th_n (hK3 _ _ ?_)
 clear hK3 K3
 refine S_if rfl (fun hb1 => ?_) (fun hb1 => ?_)
 ·
  replace hb1 := nb_nt hb1
  refine wp_seq_k fun K4 hK4 => ?_
  refine Sb 26 rfl ?_
  refine Sas rfl ?_
  refine S_nl rfl rfl ?_
  refine th_n (hK4 _ _ ?_)
  clear hK4 K4
  refine wp_ret ?_
  refine th_r ?_
  clear hK2 K2
  refine ret_r1 rfl rfl ?_
  exact ⟨bF (fun e => hb1 (by rw [e])), G⟩
 replace hb1 := nb_nf hb1
 refine wp_skip ?_
 refine th_n (hK2 _ _ ?_)
 clear hK2 K2
 refine wp_seq_k fun K5 hK5 => ?_
 refine wp_seq_k fun K6 hK6 => ?_
 refine Sb 26 rfl ?_
 refine Smv rfl ?_
 refine S_val (Y_len U24 rfl) ?_
 refine Smv rfl ?_
 refine S_nl rfl rfl ?_
 refine th_n (hK6 _ _ ?_)
 clear hK6 K6
 refine wp_block ?_
 go_loopw [13] (fun u13 wr => (∃ k : Nat, u13 = .int .i64 k ∧ k ≤ xs.length ∧ xs.take k = ys.take k) ∧ Mod No w wr) (fun u13 wr => xs.length - (intOf u13).toNat)
 case atStart =>
  refine ⟨?_, Mod.refl _ _⟩
  exact ⟨0, rfl, by omega, by simp⟩
 case round =>
  obtain ⟨w1, rfl⟩ : ∃ x : World, x = wr := ⟨_, rfl⟩
  obtain ⟨hrel, g1⟩ := hrel
  replace hA := hA.grow g1
  replace hB := hB.grow g1
  replace G := G.grow g1
  have zg1 := g1.size
  obtain ⟨k, rfl, hk, hs⟩ := hrel
  have GL1 := g1
  refine wp_seq_k fun K7 hK7 => ?_
  refine Sb 26 rfl ?_
  refine S_val (Y_lss rfl rfl) ?_
  refine S_nl rfl rfl ?_
  refine th_n (hK7 _ _ ?_)
  clear hK7 K7
  refine wp_seq_k fun K8 hK8 => ?_
  refine S_if rfl (fun hb2 => ?_) (fun hb2 => ?_)
  ·
   replace hb2 := nb_tt hb2
   refine wp_skip ?_
   refine th_n (hK8 _ _ ?_)
   clear hK8 K8
   refine wp_seq_k fun K9 hK9 => ?_
   refine wp_block ?_
   refine wp_seq_k fun K10 hK10 => ?_
   refine Sb 26 rfl ?_
   refine Smv rfl ?_
   refine Sas rfl ?_
   refine S_nl rfl rfl ?_
   refine th_n (hK10 _ _ ?_)
   clear hK10 K10
   refine wp_seq_k fun K11 hK11 => ?_
   refine D_start 9 26 (fun w => Mod (No) w) follows rfl rfl ?_
   intro w2 g2
   replace hA := hA.grow g2
   replace hB := hB.grow g2
   replace G := G.grow g2
   replace GL1 := GL1.grow g2
   have zg2 := g2.size
   have GS2 := Mod.refl (No) w2
   obtain ⟨g1, o1, rfl, hp1, hc1⟩ := hA.int (k := k) (by omega)
   obtain ⟨g2, o2, rfl, hp2, hc2⟩ := hB.int (k := k) (by omega)
   refine Dq (i := 0) rfl GS2 (fun _ _ => Y_move rfl) ?_
   refine Dq (i := 1) rfl GS2 (fun _ _ => Y_move rfl) ?_
   refine Dq (i := 2) rfl GS2 (fun _ _ => Y_index U24 sz3 rfl rfl (by first | assumption | omega)) ?_
   refine Dq (i := 3) rfl GS2 (fun _ hs => Y_load U3 rfl rfl (by first | exact hs.cell0 (by assumption))) ?_
   refine Dq (i := 4) rfl GS2 (fun _ _ => Y_move rfl) ?_
   refine Dq (i := 5) rfl GS2 (fun _ _ => Y_move rfl) ?_
   refine Dq (i := 6) rfl GS2 (fun _ _ => Y_index U24 sz3 rfl rfl (by first | assumption | omega)) ?_
   refine Dq (i := 7) rfl GS2 (fun _ hs => Y_load U3 rfl rfl (by first | exact hs.cell0 (by assumption))) ?_
   refine Dq (i := 8) rfl GS2 (fun _ _ => Y_neq rfl rfl) ?_
   refine D_en (by kernel_rfl) rfl rfl ?_
   refine th_n (hK11 _ _ ?_)
   clear hK11 K11
   refine S_if rfl (fun hb3 => ?_) (fun hb3 => ?_)
   ·
    replace hb3 := nb_nt hb3
    refine wp_seq_k fun K12 hK12 => ?_
    refine Sb 26 rfl ?_
    refine Sas rfl ?_
    refine S_nl rfl rfl ?_
    refine th_n (hK12 _ _ ?_)
    clear hK12 K12
    refine wp_ret ?_
    refine ib_r ?_
    refine th_r ?_
    try clear GL1
    refine th_r ?_
    refine ib_r ?_
    refine th_r ?_
    clear hK9 K9 hK5 K5
    refine ret_r1 rfl rfl ?_
    exact ⟨bF (fun e => hb3 (by subst e; rfl)), G⟩
   replace hb3 := nb_nf hb3
   refine wp_skip ?_
   refine ib_n ?_
   refine th_n (hK9 _ _ ?_)
   clear hK9 K9
   refine Sb 26 rfl ?_
   refine S_val (Y_inc rfl rfl (by omega)) ?_
   refine Smv rfl ?_
   refine S_nl rfl rfl ?_
   refine th_n ?_
   go_roundw
   case rel =>
    refine ⟨?_, GL1⟩
    exact ⟨k + 1, rfl, by omega, take_eq hs (by omega) (by omega) hb3⟩
   case measure =>
    exact dec_nat (by omega)
  replace hb2 := nb_tf hb2
  refine wp_exit ?_
  refine th_x ?_
  try clear GL1
  refine th_x ?_
  refine ib_e ?_
  refine th_n (hK5 _ _ ?_)
  clear hK8 K8 hK5 K5
  refine wp_seq_k fun K13 hK13 => ?_
  refine Sb 26 rfl ?_
  refine Sas rfl ?_
  refine S_nl rfl rfl ?_
  refine th_n (hK13 _ _ ?_)
  clear hK13 K13
  refine wp_ret ?_
  refine ret_r1 rfl rfl ?_
  exact ⟨bT (take_all hs (by omega) (by omega)), G⟩
end
/-! WalkT -/
section
open Go Go.RowKit
attribute [local irreducible] wpList wpAnyH Code.wp dOp
set_option maxHeartbeats 400000 in
set_option maxRecDepth 20000 in
theorem impl_LeakedCells_c (Pr : Nat → Prop) (A B : Option Addr) (h : LH) (c d : Nat) (w : World) (hA : RC Pr w A h.cells) (hB : R1 Pr w B (ints h.roots)) (hz : hsize h ≤ 1048576) :
    Calls Try.prog 12 #[.agg #[.slice A h.cells.length c, .slice B h.roots.length d]] w (Ret fun v w' => ∃ A1 q cap, v = .slice A1 q cap ∧ q = (leakV h).length ∧ OI (fun i => w.heap.size ≤ i) w' 3 A1 (ints (leakV h)) ∧ Grow w w') := by
 have hz1 := hsize_cells h
 have hz2 := hsize_roots h
 refine enter Try.func12 rfl Try.ntmps12 (L := [_,_,_,_,_,_,_,_,_,_,_,_,_,_,_,_,_,_,_,_,_,_,_,_,_,_,_,_,_,_]) rfl ?_
 have G := Mod.refl No w
 have hA0 := hA
 have hB0 := hB
 refine wp_seq_k fun K1 hK1 => ?_
 refine Sb 30 rfl ?_
 refine S_box (cs := [_, _]) rfl rfl ?_
 intro b1 w1 fb1 g1 B1
 have lb1 := B1.lt
 replace hA := hA.grow g1
 replace hB := hB.grow g1
 replace G := G.grow g1
 have zg1 := g1.size
 refine Sas rfl ?_
 refine S_nl rfl rfl ?_
 refine th_n (hK1 _ _ ?_)
 clear hK1 K1
 refine wp_seq_k fun K2 hK2 => ?_
 refine wp_seq_k fun K3 hK3 => ?_
 refine Sb 30 rfl ?_
 refine S_val (Y_loadS U26 rfl sz26 rfl (B1.row (by rfl))) ?_
 refine S_call rfl en32 (impl_HeapValid_c _ _ _ _ _ _ _ (by assumption) (by assumption) (by omega)) ?_
 rintro v2 w2 ⟨rfl, g2⟩
 replace hA := hA.grow g2
 replace hB := hB.grow g2
 replace G := G.grow g2
 replace B1 := B1.grow g2
 have zg2 := g2.size
 refine S_val (Y_not rfl) ?_
 refine S_nl rfl rfl ?_
 refine th_n (hK3 _ _ ?_)
 clear hK3 K3
 refine S_if rfl (fun hb1 => ?_) (fun hb1 => ?_)
 ·
  first | with_reducible (replace hb1 := nb_nt hb1) | with_reducible (replace hb1 := nb_tt hb1) | with_reducible (replace hb1 := nb_bt hb1) | skip
  refine wp_seq_k fun K4 hK4 => ?_
  refine Sb 30 rfl ?_
  refine Sas rfl ?_
  refine S_nl rfl rfl ?_
  refine th_n (hK4 _ _ ?_)
  clear hK4 K4
  refine wp_ret ?_
  refine th_r ?_
  clear hK2 K2
  refine ret_r1 rfl rfl ?_
  exact ⟨_, _, _, rfl, by rw [leakV_f hb1]; rfl, by rw [leakV_f hb1]; exact OI.nil _ _ _ _, G⟩
 first | with_reducible (replace hb1 := nb_nf hb1) | with_reducible (replace hb1 := nb_tf hb1) | with_reducible (replace hb1 := nb_bf hb1) | skip
 have va := valid_iff.1 hb1
 have hl := va.leads
 have h40 := va.le
 have hr4 := va.roots4
 refine wp_skip ?_
 refine th_n (hK2 _ _ ?_)
 clear hK2 K2
 refine wp_seq_k fun K5 hK5 => ?_
 refine D_start 6 30 (fun w => Mod (No) w) follows rfl rfl ?_
 intro w3 g3
 replace hA := hA.grow g3
 replace hB := hB.grow g3
 replace G := G.grow g3
 replace B1 := B1.grow g3
 have zg3 := g3.size
 have GS3 := Mod.refl (No) w3
 have B1d3 := B1
 refine Dq (i := 0) rfl GS3 (fun _ hs => Y_loadS U26 rfl sz26 rfl (by first | exact hs.cells0 (B1.row (by rfl)))) ?_
 refine Dq (i := 2) rfl GS3 (fun _ hs => Y_loadS U26 rfl sz26 rfl (by first | exact hs.cells0 (B1.row (by rfl)))) ?_
 refine D_1 (i := 1) (by kernel_rfl) ?_
 refine E_call rfl rfl en34 (impl_usedSet_c _ _ _ _ _ _ _ (by assumption) (by omega)) ?_
 rintro v4 w4 ⟨s4, rfl, hs4, g4⟩
 replace hA := hA.grow g4
 replace hB := hB.grow g4
 replace G := G.grow g4
 replace GS3 := GS3.grow g4
 replace B1 := B1.grow g4
 have zg4 := g4.size
 have hU := hs4
 refine ⟨GS3, ?_⟩
 refine D_1 (i := 3) (by kernel_rfl) ?_
 refine E_call rfl rfl en39 (impl_reachable_c _ _ _ _ _ _ _ (by assumption) (by assumption) (by omega) (by assumption)) ?_
 rintro v5 w5 ⟨s5, rfl, hs5, hr5, g5⟩
 replace hA := hA.grow g5
 replace hB := hB.grow g5
 replace G := G.grow g5
 replace GS3 := GS3.grow g5
 replace B1 := B1.grow g5
 have zg5 := g5.size
 have hR0 := hs5
 have hR := hr5
 refine ⟨GS3, ?_⟩
 refine Dq (i := 4) rfl GS3 (fun _ _ => Y_andNot rfl rfl (by first | assumption | exact SetOf.wlt (by assumption)) (by first | assumption | exact SetOf.wlt (by assumption))) ?_
 refine Dq (i := 5) rfl GS3 (fun _ _ => Y_assign rfl) ?_
 refine D_en (by kernel_rfl) rfl rfl ?_
 refine th_n (hK5 _ _ ?_)
 clear hK5 K5
 refine wp_seq_k fun K6 hK6 => ?_
 refine Sb 30 rfl ?_
 refine S_bs0 U24 sz3 ?_
 intro b6 w6 fb6 g6 B6
 have lb6 := B6.lt
 replace hA := hA.grow g6
 replace hB := hB.grow g6
 replace G := G.grow g6
 replace B1 := B1.grow g6
 have zg6 := g6.size
 refine Sas rfl ?_
 refine S_nl rfl rfl ?_
 refine th_n (hK6 _ _ ?_)
 clear hK6 K6
 refine wp_seq_k fun K7 hK7 => ?_
 refine wp_seq_k fun K8 hK8 => ?_
 refine Sb 30 rfl ?_
 refine S_val (Y_field U26 rfl fz26_0 (by decide) rfl) ?_
 refine S_val (Y_load U23 rfl rfl (B1.at (by rfl))) ?_
 refine S_val (Y_len U23 rfl) ?_
 refine Smv rfl ?_
 refine S_nl rfl rfl ?_
 refine th_n (hK8 _ _ ?_)
 clear hK8 K8
 refine wp_block ?_
 obtain ⟨bz, rfl⟩ : ∃ x : Nat, x = b6 := ⟨_, rfl⟩
 obtain ⟨wz, hwz⟩ : ∃ x, x = w6.heap.size := ⟨_, rfl⟩
 have O1 : OW (fun i => i = bz ∨ wz ≤ i) w6 3 1 (some ⟨bz, 0, none⟩) 0 0 (ints []) := OW.of_blk B6 rfl (by decide) (.inl rfl)
 go_loopw [4, 18] (fun u4 u18 wr => (∃ (k q cap : Nat) (A1 : Option Addr), u18 = .int .i64 k ∧ u4 = .slice A1 q cap ∧ k ≤ h.cells.length ∧ q = (selL k (leakP h)).length ∧ OW (fun i => i = bz ∨ wz ≤ i) wr 3 1 A1 q cap (ints (selL k (leakP h)))) ∧ Mod (fun i => i = bz ∨ wz ≤ i) w6 wr) (fun u4 u18 wr => h.cells.length - (intOf u18).toNat)
 case atStart =>
  refine ⟨?_, Mod.refl _ _⟩
  exact ⟨0, 0, 0, _, rfl, rfl, by omega, rfl, O1⟩
 case round =>
  obtain ⟨w7, rfl⟩ : ∃ x : World, x = wr := ⟨_, rfl⟩
  obtain ⟨hrel, g7⟩ := hrel
  clear O1
  replace G := G.abv g7
  replace hA := hA0.grow G
  replace hB := hB0.grow G
  replace B1 := B1.md g7
  have zg7 := g7.size
  obtain ⟨k, q1, cap1, A1, rfl, rfl, hk, hq1, O1⟩ := hrel
  have hsl := selL_le k (leakP h)
  have GL7 := g7
  refine wp_seq_k fun K9 hK9 => ?_
  refine Sb 30 rfl ?_
  refine S_val (Y_lss rfl rfl) ?_
  refine S_nl rfl rfl ?_
  refine th_n (hK9 _ _ ?_)
  clear hK9 K9
  refine wp_seq_k fun K10 hK10 => ?_
  refine S_if rfl (fun hb2 => ?_) (fun hb2 => ?_)
  ·
   replace hb2 := nb_tt hb2
   have hk1 : k < h.cells.length := by omega
   refine wp_skip ?_
   refine th_n (hK10 _ _ ?_)
   clear hK10 K10
   refine wp_seq_k fun K11 hK11 => ?_
   refine wp_block ?_
   refine wp_seq_k fun K12 hK12 => ?_
   refine Sb 30 rfl ?_
   refine Smv rfl ?_
   refine Sas rfl ?_
   refine S_nl rfl rfl ?_
   refine th_n (hK12 _ _ ?_)
   clear hK12 K12
   refine wp_seq_k fun K13 hK13 => ?_
   refine Sb 30 rfl ?_
   refine Smv rfl ?_
   refine Smv rfl ?_
   refine S_call rfl en40 (impl_cellSet_has_c _ _ _ (lessN_lt hU.1)) ?_
   rintro v w' ⟨rfl, rfl⟩
   refine S_nl rfl rfl ?_
   refine th_n (hK13 _ _ ?_)
   clear hK13 K13
   refine S_if rfl (fun hb3 => ?_) (fun hb3 => ?_)
   ·
    first | with_reducible (replace hb3 := nb_nt hb3) | with_reducible (replace hb3 := nb_tt hb3) | with_reducible (replace hb3 := nb_bt hb3) | skip
    rw [hasB_nat, lessN_bit hU.1 hR0, used_set hU, rB_list hR hk1] at hb3
    replace hb3 : leakP h k = true := hb3
    refine Sb 30 rfl ?_
    refine Smv rfl ?_
    refine Smv rfl ?_
    refine S_bs1 (cs := [_]) U24 zr3 sz3 rfl rfl rfl ?_
    intro b9 w9 fb9 g9 B9
    have lb9 := B9.lt
    replace hA := hA.grow g9
    replace hB := hB.grow g9
    replace O1 := O1.grow g9
    replace G := G.grow g9
    replace GL7 := GL7.grow g9
    replace B1 := B1.grow g9
    have zg9 := g9.size
    refine S_app U24 zr3 sz3 by3 rfl rfl O1 rfl (Src.blk B9) (by simp [Value.oneCell']) (by omega) (Pr' := fun i => i = bz ∨ wz ≤ i) (fun i hi => hi) (by omega) ?_
    intro A10 cap10 w10 X10 m10
    replace O1 := X10
    rw [ints_app] at O1
    clear X10
    replace G := G.abv m10
    replace GL7 := GL7.trn m10
    replace hA := hA0.grow G
    replace hB := hB0.grow G
    replace B1 := B1.md m10
    have zm10 := m10.size
    refine Sas rfl ?_
    refine S_nl rfl rfl ?_
    refine ib_n ?_
    refine th_n (hK11 _ _ ?_)
    clear hK11 K11
    refine Sb 30 rfl ?_
    refine S_val (Y_inc rfl rfl (by omega)) ?_
    refine Smv rfl ?_
    refine S_nl rfl rfl ?_
    refine th_n ?_
    go_roundw
    case rel =>
     refine ⟨?_, GL7⟩
     exact ⟨k + 1, _, _, _, rfl, rfl, by omega, by rw [selL_yes hb3, List.length_append, ← hq1]; rfl, by rw [selL_yes hb3]; exact O1⟩
    case measure =>
     exact dec_nat (by omega)
   first | with_reducible (replace hb3 := nb_nf hb3) | with_reducible (replace hb3 := nb_tf hb3) | with_reducible (replace hb3 := nb_bf hb3) | skip
   rw [hasB_nat, lessN_bit hU.1 hR0, used_set hU, rB_list hR hk1] at hb3
   replace hb3 : leakP h k = false := hb3
   refine wp_skip ?_
   refine ib_n ?_
   refine th_n (hK11 _ _ ?_)
   clear hK11 K11
   refine Sb 30 rfl ?_
   refine S_val (Y_inc rfl rfl (by omega)) ?_
   refine Smv rfl ?_
   refine S_nl rfl rfl ?_
   refine th_n ?_
   go_roundw
   case rel =>
    refine ⟨?_, GL7⟩
    exact ⟨k + 1, _, _, _, rfl, rfl, by omega, by rw [selL_no hb3]; exact hq1, by rw [selL_no hb3]; exact O1⟩
   case measure =>
    exact dec_nat (by omega)
  replace hb2 := nb_tf hb2
  refine wp_exit ?_
  refine th_x ?_
  try clear GL7
  refine th_x ?_
  refine ib_e ?_
  refine th_n (hK7 _ _ ?_)
  clear hK10 K10 hK7 K7
  refine wp_seq_k fun K14 hK14 => ?_
  refine Sb 30 rfl ?_
  refine Smv rfl ?_
  refine Sas rfl ?_
  refine S_nl rfl rfl ?_
  refine th_n (hK14 _ _ ?_)
  clear hK14 K14
  refine wp_ret ?_
  refine ret_r1 rfl rfl ?_
  have hkN : k = h.cells.length := by omega
  rw [hkN] at hq1 O1
  exact ⟨_, _, _, rfl, by rw [leakV_t hb1]; exact hq1, by rw [leakV_t hb1]; exact O1.oi.weak (fun i hi => by omega), G⟩
end
/-! WalkP -/
section
open Go Go.RowKit
attribute [local irreducible] wpList wpAnyH Code.wp dOp
set_option maxHeartbeats 400000 in
set_option maxRecDepth 20000 in
theorem spec_l7Counts_c (Pr : Nat → Prop) (A B : Option Addr) (h : LH) (c d : Nat) (w : World) (hA : RC Pr w A h.cells) (hB : R1 Pr w B (ints h.roots)) (hz : hsize h ≤ 1048576) (hl : Leads h.cells h.roots nn) :
    Calls Try.prog 28 #[.agg #[.slice A h.cells.length c, .slice B h.roots.length d]] w (Ret fun v w' => ∃ b, v = .slice (some ⟨b, 0, none⟩) h.cells.length h.cells.length ∧ w.heap.size ≤ b ∧ Blk w' b 3 (ints (cntL h.cells.length (refsAll h fun _ => false))).toArray ∧ Grow w w') := by
 have hz1 := hsize_cells h
 have hz2 := hsize_roots h
 have hz3 : ∀ k (hk : k < h.cells.length), h.cells[k].refs.length ≤ hsize h := fun k hk => hsize_refs h hk
 have hz4 : h.roots.length + rsum h.cells h.cells.length ≤ hsize h := by unfold hsize; omega
 have hAl := hA.below
 have hBl := hB.below
 refine enter Try.func28 rfl Try.ntmps28 (L := [_,_,_,_,_,_,_,_,_,_,_,_,_,_,_,_,_,_,_,_,_,_,_,_,_,_,_,_,_,_,_,_,_,_,_,_,_,_,_,_,_,_,_,_,_,_,_,_,_,_,_,_,_,_,_,_,_,_,_,_,_,_,_,_,_,_,_,_,_,_,_,_,_,_,_,_,_,_,_]) rfl ?_
 have G := Mod.refl No w
 have hAl0 := hAl
 have hBl0 := hBl
 refine wp_seq_k fun K1 hK1 => ?_
 refine Sb 79 rfl ?_
 refine S_box (cs := [_, _]) rfl rfl ?_
 intro b1 w1 fb1 g1 B1
 have lb1 := B1.lt
 replace hAl := hAl.grow g1
 replace hBl := hBl.grow g1
 replace G := G.grow g1
 have zg1 := g1.size
 refine Sas rfl ?_
 refine S_nl rfl rfl ?_
 refine th_n (hK1 _ _ ?_)
 clear hK1 K1
 refine wp_seq_k fun K2 hK2 => ?_
 refine Sb 79 rfl ?_
 refine S_val (Y_field U26 rfl fz26_0 (by decide) rfl) ?_
 refine S_val (Y_load U23 rfl rfl (B1.at (by rfl))) ?_
 refine S_val (Y_len U23 rfl) ?_
 refine S_make (z := [.int .i64 0]) U24 zr3 sz3 by3 rfl rfl (by omega) (by omega) (by omega) ?_
 intro b2 w2 fb2 g2 B2
 rw [cntL_zero] at B2
 have lb2 := B2.lt
 replace hAl := hAl.grow g2
 replace hBl := hBl.grow g2
 replace G := G.grow g2
 replace B1 := B1.grow g2
 have zg2 := g2.size
 refine Sas rfl ?_
 refine S_nl rfl rfl ?_
 refine th_n (hK2 _ _ ?_)
 clear hK2 K2
 refine wp_seq_k fun K3 hK3 => ?_
 refine wp_seq_k fun K4 hK4 => ?_
 refine Sb 79 rfl ?_
 refine Sas rfl ?_
 refine S_nl rfl rfl ?_
 refine th_n (hK4 _ _ ?_)
 clear hK4 K4
 refine wp_block ?_
 go_loopw [4] (fun u4 wr => (∃ k : Nat, u4 = .int .i64 k ∧ k ≤ h.roots.length ∧ Blk wr b2 3 (ints (cntL h.cells.length (h.roots.take k))).toArray) ∧ Mod (fun i => i = b2) w2 wr) (fun u4 wr => h.roots.length - (intOf u4).toNat)
 case atStart =>
  refine ⟨?_, Mod.refl _ _⟩
  exact ⟨0, rfl, by omega, by simpa using B2⟩
 case round =>
  obtain ⟨w3, rfl⟩ : ∃ x : World, x = wr := ⟨_, rfl⟩
  obtain ⟨hrel, g3⟩ := hrel
  clear B2
  replace G := G.abv g3
  replace hAl := hAl0.grow G
  replace hBl := hBl0.grow G
  replace B1 := B1.md g3
  have zg3 := g3.size
  obtain ⟨k, rfl, hk, B2⟩ := hrel
  have GL3 := g3
  refine wp_seq_k fun K5 hK5 => ?_
  refine wp_seq_k fun K6 hK6 => ?_
  refine Sb 79 rfl ?_
  refine Smv rfl ?_
  refine S_val (Y_field U26 rfl fz26_1 (by decide) rfl) ?_
  refine S_val (Y_load U24 rfl rfl (B1.at (by rfl))) ?_
  refine S_val (Y_len U24 rfl) ?_
  refine S_val (Y_lss rfl rfl) ?_
  refine S_nl rfl rfl ?_
  refine th_n (hK6 _ _ ?_)
  clear hK6 K6
  refine S_if rfl (fun hb1 => ?_) (fun hb1 => ?_)
  ·
   replace hb1 := nb_tt hb1
   have hk1 : k < h.roots.length := by omega
   obtain ⟨g2, o2, rfl, hp2, hc2⟩ := hBl.int hk1
   have htk := List.take_succ_eq_append_getElem hk1
   have htl : (h.roots.take k).length ≤ 1048576 := by rw [List.length_take]; omega
   refine wp_skip ?_
   refine th_n (hK5 _ _ ?_)
   clear hK5 K5
   refine wp_seq_k fun K7 hK7 => ?_
   refine wp_block ?_
   refine wp_seq_k fun K8 hK8 => ?_
   refine Sb 79 rfl ?_
   refine S_val (Y_field U26 rfl fz26_1 (by decide) rfl) ?_
   refine S_val (Y_load U24 rfl rfl (B1.at (by rfl))) ?_
   refine Smv rfl ?_
   refine S_val (Y_index U24 sz3 rfl rfl (by first | assumption | omega)) ?_
   refine S_val (Y_load U3 rfl rfl (by first | assumption | exact B1.at (by rfl) | exact B2.at (by rfl))) ?_
   refine S_val (Y_geq rfl rfl) ?_
   refine S_nl rfl rfl ?_
   refine th_n (hK8 _ _ ?_)
   clear hK8 K8
   refine S_if rfl (fun hb2 => ?_) (fun hb2 => ?_)
   ·
    replace hb2 := nb_tt hb2
    obtain ⟨n, hn, hnN⟩ := ref_at hl.1 hk1 hb2
    rw [hn] at htk
    have hcle := count_le (n : Int) (h.roots.take k)
    refine D_start 17 79 (fun w => Mod (fun i => i = b2) w) follows rfl rfl ?_
    intro w4 g4
    replace hAl := hAl.grow g4
    replace hBl := hBl.grow g4
    replace G := G.grow g4
    replace GL3 := GL3.grow g4
    replace B1 := B1.grow g4
    replace B2 := B2.grow g4
    have zg4 := g4.size
    have GS4 := Mod.refl (fun i => i = b2) w4
    obtain ⟨g3, o3, e3, hp3, hc3⟩ := hBl.int hk1
    cases e3
    rw [hn] at hc3
    have hcel : w4.cell? ⟨b2, 0 + n * 1, none⟩ = some (.int .i64 (((h.roots.take k).count (n : Int) : Nat) : Int)) := by rw [Nat.zero_add, Nat.mul_one]; exact B2.at (by rw [List.getElem?_toArray]; exact ints_get (cntL_get hnN))
    refine Dq (i := 0) rfl GS4 (fun _ _ => Y_move rfl) ?_
    refine Dq (i := 1) rfl GS4 (fun _ _ => Y_field U26 rfl fz26_1 (by decide) rfl) ?_
    refine Dq (i := 2) rfl GS4 (fun _ hs => Y_load U24 rfl rfl (by first | exact hs.cel (B1.at (by rfl)))) ?_
    refine Dq (i := 3) rfl GS4 (fun _ _ => Y_move rfl) ?_
    refine Dq (i := 4) rfl GS4 (fun _ _ => Y_index U24 sz3 rfl rfl (by first | assumption | omega)) ?_
    refine Dq (i := 5) rfl GS4 (fun _ hs => Y_load U3 rfl rfl (by first | exact hs.cel (by assumption) | exact hs.cel (B1.at (by rfl)) | exact hs.cel (B2.at (by rfl)))) ?_
    refine Dq (i := 6) rfl GS4 (fun _ _ => Y_move rfl) ?_
    refine Dq (i := 7) rfl GS4 (fun _ _ => Y_field U26 rfl fz26_1 (by decide) rfl) ?_
    refine Dq (i := 8) rfl GS4 (fun _ hs => Y_load U24 rfl rfl (by first | exact hs.cel (B1.at (by rfl)))) ?_
    refine Dq (i := 9) rfl GS4 (fun _ _ => Y_move rfl) ?_
    refine Dq (i := 10) rfl GS4 (fun _ _ => Y_index U24 sz3 rfl rfl (by first | assumption | omega)) ?_
    refine Dq (i := 11) rfl GS4 (fun _ hs => Y_load U3 rfl rfl (by first | exact hs.cel (by assumption) | exact hs.cel (B1.at (by rfl)) | exact hs.cel (B2.at (by rfl)))) ?_
    refine Dq (i := 12) rfl GS4 (fun _ _ => Y_index U24 sz3 rfl rfl (by first | assumption | omega)) ?_
    refine D_1 (i := 13) (by kernel_rfl) ?_
    refine E_val (i := 13) rfl (Y_load U3 rfl rfl hcel) GS4 ?_
    refine Dq (i := 14) rfl GS4 (fun _ _ => Y_inc rfl rfl (by omega)) ?_
    refine Dq (i := 15) rfl GS4 (fun _ _ => Y_index U24 sz3 rfl rfl (by first | assumption | omega)) ?_
    refine D_1 (i := 16) (by kernel_rfl) ?_
    refine E_stM (i := 16) rfl (pre := (ints (cntL h.cells.length (h.roots.take k))).take n) (old := [.int .i64 (((h.roots.take k).count (n : Int) : Nat) : Int)]) (post := (ints (cntL h.cells.length (h.roots.take k))).drop (n + 1)) (vs := [_]) sz3 rfl rfl rfl rfl (by rw [← cntL_split hnN]; exact B2) (by rw [List.length_take, ints_len, cntL_len]; omega) rfl ?_
    intro w6 m6 X6
    replace B2 := Blk.eq X6 (cntL_set hnN)
    clear X6
    replace G := G.abv m6
    replace GL3 := GL3.trn m6
    replace GS4 := GS4.trn m6
    replace hAl := hAl0.grow G
    replace hBl := hBl0.grow G
    replace B1 := B1.md m6
    have zm6 := m6.size
    refine ⟨GS4, ?_⟩
    refine D_en (by kernel_rfl) rfl rfl ?_
    refine ib_n ?_
    refine th_n (hK7 _ _ ?_)
    clear hK7 K7
    refine Sb 79 rfl ?_
    refine Smv rfl ?_
    refine S_val (Y_inc rfl rfl (by omega)) ?_
    refine Sas rfl ?_
    refine S_nl rfl rfl ?_
    refine th_n ?_
    go_roundw
    case rel =>
     refine ⟨?_, GL3⟩
     exact ⟨k + 1, rfl, by omega, by rw [htk]; exact B2⟩
    case measure =>
     exact dec_nat (by omega)
   replace hb2 := nb_tf hb2
   refine wp_skip ?_
   refine ib_n ?_
   refine th_n (hK7 _ _ ?_)
   clear hK7 K7
   refine Sb 79 rfl ?_
   refine Smv rfl ?_
   refine S_val (Y_inc rfl rfl (by omega)) ?_
   refine Sas rfl ?_
   refine S_nl rfl rfl ?_
   refine th_n ?_
   go_roundw
   case rel =>
    refine ⟨?_, GL3⟩
    exact ⟨k + 1, rfl, by omega, by rw [htk, cntL_neg hb2]; exact B2⟩
   case measure =>
    exact dec_nat (by omega)
  replace hb1 := nb_tf hb1
  refine wp_exit ?_
  refine th_x ?_
  try clear GL3
  refine th_x ?_
  refine ib_e ?_
  refine th_n (hK3 _ _ ?_)
  clear hK5 K5 hK3 K3
  refine wp_seq_k fun K9 hK9 => ?_
  refine wp_seq_k fun K10 hK10 => ?_
  refine Sb 79 rfl ?_
  refine Sas rfl ?_
  refine S_nl rfl rfl ?_
  refine th_n (hK10 _ _ ?_)
  clear hK10 K10
  refine wp_block ?_
  rw [List.take_of_length_le (by omega)] at B2
  go_loopw [5] (fun u5 wr => (∃ k : Nat, u5 = .int .i64 k ∧ k ≤ h.cells.length ∧ Blk wr b2 3 (ints (cntL h.cells.length (h.roots ++ refsUp h.cells (fun _ => false) k))).toArray) ∧ Mod (fun i => i = b2) w3 wr) (fun u5 wr => h.cells.length - (intOf u5).toNat)
  case atStart =>
   refine ⟨?_, Mod.refl _ _⟩
   exact ⟨0, rfl, by omega, by simpa [refsUp] using B2⟩
  case round =>
   obtain ⟨w7, rfl⟩ : ∃ x : World, x = wr := ⟨_, rfl⟩
   obtain ⟨hrel, g7⟩ := hrel
   clear B2
   replace G := G.abv g7
   replace hAl := hAl0.grow G
   replace hBl := hBl0.grow G
   replace B1 := B1.md g7
   have zg7 := g7.size
   obtain ⟨k, rfl, hk, B2⟩ := hrel
   have GL7 := g7
   refine wp_seq_k fun K11 hK11 => ?_
   refine wp_seq_k fun K12 hK12 => ?_
   refine Sb 79 rfl ?_
   refine Smv rfl ?_
   refine S_val (Y_field U26 rfl fz26_0 (by decide) rfl) ?_
   refine S_val (Y_load U23 rfl rfl (B1.at (by rfl))) ?_
   refine S_val (Y_len U23 rfl) ?_
   refine S_val (Y_lss rfl rfl) ?_
   refine S_nl rfl rfl ?_
   refine th_n (hK12 _ _ ?_)
   clear hK12 K12
   refine S_if rfl (fun hb2 => ?_) (fun hb2 => ?_)
   ·
    replace hb2 := nb_tt hb2
    have hk1 : k < h.cells.length := by omega
    obtain ⟨g3, o3, E3, d3, rfl, hp3, cc30, hE30⟩ := hAl0.cell hk1
    have cc3 := cc30.grow G
    have hE3 := hE30.grow G
    have hz5 := hz3 k hk1
    have hq1 := refsUp_le (cs := h.cells) (sk := fun _ => false) (Nat.le_of_lt hk1)
    have hq2 := rsum_succ hk1
    have hq3 := rsum_mono (cs := h.cells) (k := k + 1) (n := h.cells.length) (by omega) (Nat.le_refl _)
    refine wp_skip ?_
    refine th_n (hK11 _ _ ?_)
    clear hK11 K11
    refine wp_seq_k fun K13 hK13 => ?_
    refine wp_block ?_
    refine wp_seq_k fun K14 hK14 => ?_
    refine Sb 79 rfl ?_
    refine Sas rfl ?_
    refine S_nl rfl rfl ?_
    refine th_n (hK14 _ _ ?_)
    clear hK14 K14
    refine wp_block ?_
    go_loopw [6] (fun u6 wr => (∃ j : Nat, u6 = .int .i64 j ∧ j ≤ h.cells[k].refs.length ∧ Blk wr b2 3 (ints (cntL h.cells.length (h.roots ++ refsUp h.cells (fun _ => false) k ++ h.cells[k].refs.take j))).toArray) ∧ Mod (fun i => i = b2) w7 wr) (fun u6 wr => h.cells[k].refs.length - (intOf u6).toNat)
    case atStart =>
     refine ⟨?_, Mod.refl _ _⟩
     exact ⟨0, rfl, by omega, by simpa using B2⟩
    case round =>
     obtain ⟨w8, rfl⟩ : ∃ x : World, x = wr := ⟨_, rfl⟩
     obtain ⟨hrel, g8⟩ := hrel
     clear B2
     replace G := G.abv g8
     replace GL7 := GL7.trn g8
     replace hAl := hAl0.grow G
     replace hBl := hBl0.grow G
     replace cc3 := cc30.grow G
     replace hE3 := hE30.grow G
     replace B1 := B1.md g8
     have zg8 := g8.size
     obtain ⟨j, rfl, hj, B2⟩ := hrel
     have GL8 := g8
     refine wp_seq_k fun K15 hK15 => ?_
     refine wp_seq_k fun K16 hK16 => ?_
     refine Sb 79 rfl ?_
     refine Smv rfl ?_
     refine S_val (Y_field U26 rfl fz26_0 (by decide) rfl) ?_
     refine S_val (Y_load U23 rfl rfl (B1.at (by rfl))) ?_
     refine Smv rfl ?_
     refine S_val (Y_index U23 sz50 rfl rfl (by first | assumption | omega)) ?_
     refine S_val (Y_field U50 rfl fz50_2 (by decide) rfl) ?_
     refine S_val (Y_load U24 rfl rfl (by first | assumption | exact cc3.at (by rfl) | exact B1.at (by rfl) | exact B2.at (by rfl))) ?_
     refine S_val (Y_len U24 rfl) ?_
     refine S_val (Y_lss rfl rfl) ?_
     refine S_nl rfl rfl ?_
     refine th_n (hK16 _ _ ?_)
     clear hK16 K16
     refine S_if rfl (fun hb3 => ?_) (fun hb3 => ?_)
     ·
      replace hb3 := nb_tt hb3
      have hj1 : j < h.cells[k].refs.length := by omega
      obtain ⟨g4, o4, rfl, hp4, hc4⟩ := hE3.int hj1
      have htj := List.take_succ_eq_append_getElem hj1
      refine wp_skip ?_
      refine th_n (hK15 _ _ ?_)
      clear hK15 K15
      refine wp_seq_k fun K17 hK17 => ?_
      refine wp_block ?_
      refine wp_seq_k fun K18 hK18 => ?_
      refine Sb 79 rfl ?_
      refine S_val (Y_field U26 rfl fz26_0 (by decide) rfl) ?_
      refine S_val (Y_load U23 rfl rfl (B1.at (by rfl))) ?_
      refine Smv rfl ?_
      refine S_val (Y_index U23 sz50 rfl rfl (by first | assumption | omega)) ?_
      refine S_val (Y_field U50 rfl fz50_2 (by decide) rfl) ?_
      refine S_val (Y_load U24 rfl rfl (by first | assumption | exact cc3.at (by rfl) | exact B1.at (by rfl) | exact B2.at (by rfl))) ?_
      refine Smv rfl ?_
      refine S_val (Y_index U24 sz3 rfl rfl (by first | assumption | omega)) ?_
      refine S_val (Y_load U3 rfl rfl (by first | assumption | exact cc3.at (by rfl) | exact B1.at (by rfl) | exact B2.at (by rfl))) ?_
      refine Sas rfl ?_
      refine S_nl rfl rfl ?_
      refine th_n (hK18 _ _ ?_)
      clear hK18 K18
      refine wp_seq_k fun K19 hK19 => ?_
      refine Sb 79 rfl ?_
      refine Smv rfl ?_
      refine S_val (Y_geq rfl rfl) ?_
      refine S_nl rfl rfl ?_
      refine th_n (hK19 _ _ ?_)
      clear hK19 K19
      refine S_if rfl (fun hb4 => ?_) (fun hb4 => ?_)
      ·
       replace hb4 := nb_tt hb4
       obtain ⟨n, hn, hnN⟩ := ref_at (hl.refs hk1) hj1 hb4
       rw [hn] at htj
       rw [hn]
       have hcle := count_le (n : Int) (h.roots ++ refsUp h.cells (fun _ => false) k ++ h.cells[k].refs.take j)
       rw [List.length_append, List.length_append, List.length_take] at hcle
       have hcel : w8.cell? ⟨b2, 0 + n * 1, none⟩ = some (.int .i64 (((h.roots ++ refsUp h.cells (fun _ => false) k ++ h.cells[k].refs.take j).count (n : Int) : Nat) : Int)) := by rw [Nat.zero_add, Nat.mul_one]; exact B2.at (by rw [List.getElem?_toArray]; exact ints_get (cntL_get hnN))
       refine Sb 79 rfl ?_
       refine Smv rfl ?_
       refine Smv rfl ?_
       refine Smv rfl ?_
       refine Smv rfl ?_
       refine S_val (Y_index U24 sz3 rfl rfl (by first | assumption | omega)) ?_
       refine S_val (Y_load U3 rfl rfl (by first | assumption | exact cc3.at (by rfl) | exact B1.at (by rfl) | exact B2.at (by rfl))) ?_
       refine S_val (Y_inc rfl rfl (by omega)) ?_
       refine S_val (Y_index U24 sz3 rfl rfl (by first | assumption | omega)) ?_
       refine S_stM (pre := (ints (cntL h.cells.length (h.roots ++ refsUp h.cells (fun _ => false) k ++ h.cells[k].refs.take j))).take n) (old := [.int .i64 (((h.roots ++ refsUp h.cells (fun _ => false) k ++ h.cells[k].refs.take j).count (n : Int) : Nat) : Int)]) (post := (ints (cntL h.cells.length (h.roots ++ refsUp h.cells (fun _ => false) k ++ h.cells[k].refs.take j))).drop (n + 1)) (vs := [_]) sz3 rfl rfl rfl rfl (by rw [← cntL_split hnN]; exact B2) (by rw [List.length_take, ints_len, cntL_len]; omega) rfl ?_
       intro w9 m9 X9
       replace B2 := Blk.eq X9 (cntL_set hnN)
       clear X9
       replace G := G.abv m9
       replace GL7 := GL7.trn m9
       replace GL8 := GL8.trn m9
       replace hAl := hAl0.grow G
       replace hBl := hBl0.grow G
       replace cc3 := cc30.grow G
       replace hE3 := hE30.grow G
       replace B1 := B1.md m9
       have zm9 := m9.size
       refine S_nl rfl rfl ?_
       refine ib_n ?_
       refine th_n (hK17 _ _ ?_)
       clear hK17 K17
       refine Sb 79 rfl ?_
       refine Smv rfl ?_
       refine S_val (Y_inc rfl rfl (by omega)) ?_
       refine Sas rfl ?_
       refine S_nl rfl rfl ?_
       refine th_n ?_
       go_roundw
       case rel =>
        refine ⟨?_, GL8⟩
        exact ⟨j + 1, rfl, by omega, by rw [htj, ← List.append_assoc]; exact B2⟩
       case measure =>
        exact dec_nat (by omega)
      replace hb4 := nb_tf hb4
      refine wp_skip ?_
      refine ib_n ?_
      refine th_n (hK17 _ _ ?_)
      clear hK17 K17
      refine Sb 79 rfl ?_
      refine Smv rfl ?_
      refine S_val (Y_inc rfl rfl (by omega)) ?_
      refine Sas rfl ?_
      refine S_nl rfl rfl ?_
      refine th_n ?_
      go_roundw
      case rel =>
       refine ⟨?_, GL8⟩
       exact ⟨j + 1, rfl, by omega, by rw [htj, ← List.append_assoc, cntL_neg hb4]; exact B2⟩
      case measure =>
       exact dec_nat (by omega)
     replace hb3 := nb_tf hb3
     refine wp_exit ?_
     refine th_x ?_
     try clear GL8
     refine th_x ?_
     refine ib_e ?_
     refine ib_n ?_
     refine th_n (hK13 _ _ ?_)
     clear hK15 K15 hK13 K13
     refine Sb 79 rfl ?_
     refine Smv rfl ?_
     refine S_val (Y_inc rfl rfl (by omega)) ?_
     refine Sas rfl ?_
     refine S_nl rfl rfl ?_
     refine th_n ?_
     go_roundw
     case rel =>
      refine ⟨?_, GL7⟩
      rw [List.take_of_length_le (by omega)] at B2
      exact ⟨k + 1, rfl, by omega, by rw [refsUp_succ hk1 rfl, ← List.append_assoc]; exact B2⟩
     case measure =>
      exact dec_nat (by omega)
   replace hb2 := nb_tf hb2
   refine wp_exit ?_
   refine th_x ?_
   try clear GL7
   refine th_x ?_
   refine ib_e ?_
   refine th_n (hK9 _ _ ?_)
   clear hK11 K11 hK9 K9
   refine wp_seq_k fun K20 hK20 => ?_
   refine Sb 79 rfl ?_
   refine Smv rfl ?_
   refine Sas rfl ?_
   refine S_nl rfl rfl ?_
   refine th_n (hK20 _ _ ?_)
   clear hK20 K20
   refine wp_ret ?_
   refine ret_r1 rfl rfl ?_
   have : k = h.cells.length := by omega
   subst this
   exact ⟨b2, rfl, by omega, B2, G⟩
set_option maxHeartbeats 400000 in
set_option maxRecDepth 20000 in
theorem impl_refCounts_1_c (E : Option Addr) (xs ys : List Int) (e N lo bo bc : Nat) (w : World) (hE : R1 (fun k => k < lo) w E (ints xs)) (Bo : Blk w bo 24 [.slice (some ⟨bc, 0, none⟩) N N].toArray) (Bc : Blk w bc 3 (ints (cntL N ys)).toArray) (hr : ∀ x ∈ xs, nn x = true → 0 ≤ x ∧ x < (N : Int)) (hx : ys.length + xs.length ≤ 1048576) (h9 : lo ≤ bc ∧ bo ≠ bc) :
    Calls Try.prog 63 #[.slice E xs.length e, .pointer (some ⟨bo, 0, none⟩)] w (Ret fun _v w' => Blk w' bc 3 (ints (cntL N (ys ++ xs))).toArray ∧ Mod (fun i => i = bc) w w') := by
 obtain ⟨p1, p2⟩ := h9
 refine enter Try.func63 rfl Try.ntmps63 (L := [_,_,_,_,_,_,_,_,_,_,_,_,_,_,_,_,_,_,_,_]) rfl ?_
 have G := Mod.refl (fun i => i = bc) w
 refine wp_seq_k fun K1 hK1 => ?_
 refine Sb 20 rfl ?_
 refine Smv rfl ?_
 refine S_val (Y_len U24 rfl) ?_
 refine Smv rfl ?_
 refine S_nl rfl rfl ?_
 refine th_n (hK1 _ _ ?_)
 clear hK1 K1
 refine wp_block ?_
 go_loopw [7] (fun u7 wr => (∃ k : Nat, u7 = .int .i64 k ∧ k ≤ xs.length ∧ Blk wr bc 3 (ints (cntL N (ys ++ xs.take k))).toArray) ∧ Mod (fun i => i = bc) w wr) (fun u7 wr => xs.length - (intOf u7).toNat)
 case atStart =>
  refine ⟨?_, Mod.refl _ _⟩
  exact ⟨0, rfl, by omega, by simpa using Bc⟩
 case round =>
  obtain ⟨w1, rfl⟩ : ∃ x : World, x = wr := ⟨_, rfl⟩
  obtain ⟨hrel, g1⟩ := hrel
  clear Bc
  replace G := Mod.trans' G g1 (fun _ h _ => h) (fun i h _ => h)
  replace hE := hE.md g1
  replace Bo := Bo.md g1
  have zg1 := g1.size
  obtain ⟨k, rfl, hk, Bc⟩ := hrel
  have GL1 := g1
  refine wp_seq_k fun K2 hK2 => ?_
  refine Sb 20 rfl ?_
  refine S_val (Y_lss rfl rfl) ?_
  refine S_nl rfl rfl ?_
  refine th_n (hK2 _ _ ?_)
  clear hK2 K2
  refine wp_seq_k fun K3 hK3 => ?_
  refine S_if rfl (fun hb1 => ?_) (fun hb1 => ?_)
  ·
   replace hb1 := nb_tt hb1
   have hk1 : k < xs.length := by omega
   obtain ⟨g1, o1, rfl, hp1, hc1⟩ := hE.int hk1
   have htk := List.take_succ_eq_append_getElem hk1
   refine wp_skip ?_
   refine th_n (hK3 _ _ ?_)
   clear hK3 K3
   refine wp_seq_k fun K4 hK4 => ?_
   refine wp_block ?_
   refine wp_seq_k fun K5 hK5 => ?_
   refine Sb 20 rfl ?_
   refine S_val (Y_index U24 sz3 rfl rfl (by first | assumption | omega)) ?_
   refine S_val (Y_load U3 rfl rfl (by first | assumption | exact Bo.at (by rfl) | exact Bc.at (by rfl))) ?_
   refine Sas rfl ?_
   refine S_nl rfl rfl ?_
   refine th_n (hK5 _ _ ?_)
   clear hK5 K5
   refine wp_seq_k fun K6 hK6 => ?_
   refine Sb 20 rfl ?_
   refine Smv rfl ?_
   refine S_val (Y_geq rfl rfl) ?_
   refine S_nl rfl rfl ?_
   refine th_n (hK6 _ _ ?_)
   clear hK6 K6
   refine S_if rfl (fun hb2 => ?_) (fun hb2 => ?_)
   ·
    replace hb2 := nb_tt hb2
    obtain ⟨n, hn, hnN⟩ := ref_at hr hk1 hb2
    rw [hn] at htk
    rw [hn]
    have hcle := count_le (n : Int) (ys ++ xs.take k)
    rw [List.length_append, List.length_take] at hcle
    have hcel : w1.cell? ⟨bc, 0 + n * 1, none⟩ = some (.int .i64 (((ys ++ xs.take k).count (n : Int) : Nat) : Int)) := by rw [Nat.zero_add, Nat.mul_one]; exact Bc.at (by rw [List.getElem?_toArray]; exact ints_get (cntL_get hnN))
    refine Sb 20 rfl ?_
    refine S_val (Y_load U24 rfl rfl (by first | assumption | exact Bo.at (by rfl) | exact Bc.at (by rfl))) ?_
    refine Smv rfl ?_
    refine S_val (Y_index U24 sz3 rfl rfl (by first | assumption | omega)) ?_
    refine S_val (Y_load U3 rfl rfl (by first | assumption | exact Bo.at (by rfl) | exact Bc.at (by rfl))) ?_
    refine S_val (Y_inc rfl rfl (by omega)) ?_
    refine S_val (Y_index U24 sz3 rfl rfl (by first | assumption | omega)) ?_
    refine S_stM (pre := (ints (cntL N (ys ++ xs.take k))).take n) (old := [.int .i64 (((ys ++ xs.take k).count (n : Int) : Nat) : Int)]) (post := (ints (cntL N (ys ++ xs.take k))).drop (n + 1)) (vs := [_]) sz3 rfl rfl rfl rfl (by rw [← cntL_split hnN]; exact Bc) (by rw [List.length_take, ints_len, cntL_len]; omega) rfl ?_
    intro w2 m2 X2
    replace Bc := Blk.eq X2 (cntL_set hnN)
    clear X2
    replace G := Mod.trans' G m2 (fun _ h _ => h) (fun i h _ => h)
    replace GL1 := GL1.trn m2
    replace hE := hE.md m2
    replace Bo := Bo.md m2
    have zm2 := m2.size
    refine S_nl rfl rfl ?_
    refine ib_n ?_
    refine th_n (hK4 _ _ ?_)
    clear hK4 K4
    refine Sb 20 rfl ?_
    refine S_val (Y_inc rfl rfl (by omega)) ?_
    refine Smv rfl ?_
    refine S_nl rfl rfl ?_
    refine th_n ?_
    go_roundw
    case rel =>
     refine ⟨?_, GL1⟩
     exact ⟨k + 1, rfl, by omega, by rw [htk, ← List.append_assoc]; exact Bc⟩
    case measure =>
     exact dec_nat (by omega)
   replace hb2 := nb_tf hb2
   refine wp_skip ?_
   refine ib_n ?_
   refine th_n (hK4 _ _ ?_)
   clear hK4 K4
   refine Sb 20 rfl ?_
   refine S_val (Y_inc rfl rfl (by omega)) ?_
   refine Smv rfl ?_
   refine S_nl rfl rfl ?_
   refine th_n ?_
   go_roundw
   case rel =>
    refine ⟨?_, GL1⟩
    exact ⟨k + 1, rfl, by omega, by rw [htk, ← List.append_assoc, cntL_neg hb2]; exact Bc⟩
   case measure =>
    exact dec_nat (by omega)
  replace hb1 := nb_tf hb1
  refine wp_exit ?_
  refine th_x ?_
  try clear GL1
  refine th_x ?_
  refine ib_e ?_
  clear hK3 K3
  refine ret_n0 rfl ?_
  rw [List.take_of_length_le (by omega)] at Bc
  exact ⟨Bc, G⟩
set_option maxHeartbeats 400000 in
set_option maxRecDepth 20000 in
theorem impl_refCounts_c (Pr : Nat → Prop) (A B : Option Addr) (h : LH) (c d m : Nat) (w : World) (hA : RC Pr w A h.cells) (hB : R1 Pr w B (ints h.roots)) (hz : hsize h ≤ 1048576) (hl : Leads h.cells h.roots nn) (hm64 : m < 2 ^ 64) :
    Calls Try.prog 38 #[.agg #[.slice A h.cells.length c, .slice B h.roots.length d], .int .u64 (m : Int)] w (Ret fun v w' => ∃ b, v = .slice (some ⟨b, 0, none⟩) h.cells.length h.cells.length ∧ w.heap.size ≤ b ∧ Blk w' b 3 (ints (cntL h.cells.length (refsAll h fun i => m.testBit i))).toArray ∧ Grow w w') := by
 have hz1 := hsize_cells h
 have hz2 := hsize_roots h
 have hz3 : ∀ k (hk : k < h.cells.length), h.cells[k].refs.length ≤ hsize h := fun k hk => hsize_refs h hk
 have hz4 : h.roots.length + rsum h.cells h.cells.length ≤ hsize h := by unfold hsize; omega
 have hAl := hA.below
 have hBl := hB.below
 refine enter Try.func38 rfl Try.ntmps38 (L := [_,_,_,_,_,_,_,_,_,_,_,_,_,_,_,_,_,_,_,_,_,_,_,_,_,_,_,_,_,_,_,_,_,_,_,_]) rfl ?_
 have G := Mod.refl No w
 have hAl0 := hAl
 have hBl0 := hBl
 refine wp_seq_k fun K1 hK1 => ?_
 refine Sb 36 rfl ?_
 refine S_box (cs := [_, _]) rfl rfl ?_
 intro b1 w1 fb1 g1 B1
 have lb1 := B1.lt
 replace hAl := hAl.grow g1
 replace hBl := hBl.grow g1
 replace G := G.grow g1
 have zg1 := g1.size
 refine Sas rfl ?_
 refine S_nl rfl rfl ?_
 refine th_n (hK1 _ _ ?_)
 clear hK1 K1
 refine wp_seq_k fun K2 hK2 => ?_
 refine Sb 36 rfl ?_
 refine S_val (Y_field U26 rfl fz26_0 (by decide) rfl) ?_
 refine S_val (Y_load U23 rfl rfl (B1.at (by rfl))) ?_
 refine S_val (Y_len U23 rfl) ?_
 refine S_make (z := [.int .i64 0]) U24 zr3 sz3 by3 rfl rfl (by omega) (by omega) (by omega) ?_
 intro b2 w2 fb2 g2 B2
 rw [cntL_zero] at B2
 have lb2 := B2.lt
 replace hAl := hAl.grow g2
 replace hBl := hBl.grow g2
 replace G := G.grow g2
 replace B1 := B1.grow g2
 have zg2 := g2.size
 refine S_alloc (cs := [_]) zr24 rfl ?_
 intro b3 w3 fb3 g3 B3
 have lb3 := B3.lt
 replace hAl := hAl.grow g3
 replace hBl := hBl.grow g3
 replace G := G.grow g3
 replace B1 := B1.grow g3
 replace B2 := B2.grow g3
 have zg3 := g3.size
 refine S_stM (pre := []) (old := [_]) (post := []) (vs := [_]) sz24 rfl rfl rfl (by first | rfl | assumption) B3 rfl rfl ?_
 intro w4 m4 X4
 replace B3 := Blk.eq (ys := [_]) X4 rfl
 clear X4
 replace G := G.abv m4
 replace hAl := hAl0.grow G
 replace hBl := hBl0.grow G
 replace B1 := B1.md m4
 replace B2 := B2.md m4
 have zm4 := m4.size
 refine S_nl rfl rfl ?_
 refine th_n (hK2 _ _ ?_)
 clear hK2 K2
 refine wp_seq_k fun K3 hK3 => ?_
 refine Sb 36 rfl ?_
 refine S_val (Y_makeFunc rfl rfl) ?_
 refine Sas rfl ?_
 refine S_nl rfl rfl ?_
 refine th_n (hK3 _ _ ?_)
 clear hK3 K3
 refine wp_seq_k fun K4 hK4 => ?_
 refine Sb 36 rfl ?_
 refine Smv rfl ?_
 refine S_val (Y_field U26 rfl fz26_1 (by decide) rfl) ?_
 refine S_val (Y_load U24 rfl rfl (B1.at (by rfl))) ?_
 refine S_callc rfl rfl en63 (impl_refCounts_1_c _ _ _ _ h.cells.length w.heap.size b3 b2 _ hBl B3 B2 hl.1 (by rw [List.length_nil]; omega) ⟨by omega, by omega⟩) ?_
 rintro v5 w5 ⟨X5, m5⟩
 replace B2 := X5
 clear X5
 replace G := G.abv m5
 replace hAl := hAl0.grow G
 replace hBl := hBl0.grow G
 replace B1 := B1.md m5
 replace B3 := B3.md m5
 have zm5 := m5.size
 rw [List.nil_append] at B2
 refine S_nl rfl rfl ?_
 refine th_n (hK4 _ _ ?_)
 clear hK4 K4
 refine wp_seq_k fun K5 hK5 => ?_
 refine wp_seq_k fun K6 hK6 => ?_
 refine Sb 36 rfl ?_
 refine S_val (Y_field U26 rfl fz26_0 (by decide) rfl) ?_
 refine S_val (Y_load U23 rfl rfl (B1.at (by rfl))) ?_
 refine S_val (Y_len U23 rfl) ?_
 refine Smv rfl ?_
 refine S_nl rfl rfl ?_
 refine th_n (hK6 _ _ ?_)
 clear hK6 K6
 refine wp_block ?_
 go_loopw [21] (fun u21 wr => (∃ k : Nat, u21 = .int .i64 k ∧ k ≤ h.cells.length ∧ Blk wr b2 3 (ints (cntL h.cells.length (h.roots ++ refsUp h.cells (fun i => m.testBit i) k))).toArray) ∧ Mod (fun i => i = b2) w5 wr) (fun u21 wr => h.cells.length - (intOf u21).toNat)
 case atStart =>
  refine ⟨?_, Mod.refl _ _⟩
  exact ⟨0, rfl, by omega, by simpa [refsUp] using B2⟩
 case round =>
  obtain ⟨w6, rfl⟩ : ∃ x : World, x = wr := ⟨_, rfl⟩
  obtain ⟨hrel, g6⟩ := hrel
  clear B2
  replace G := G.abv g6
  replace hAl := hAl0.grow G
  replace hBl := hBl0.grow G
  replace B1 := B1.md g6
  replace B3 := B3.md g6
  have zg6 := g6.size
  obtain ⟨k, rfl, hk, B2⟩ := hrel
  have GL6 := g6
  refine wp_seq_k fun K7 hK7 => ?_
  refine Sb 36 rfl ?_
  refine S_val (Y_lss rfl rfl) ?_
  refine S_nl rfl rfl ?_
  refine th_n (hK7 _ _ ?_)
  clear hK7 K7
  refine wp_seq_k fun K8 hK8 => ?_
  refine S_if rfl (fun hb1 => ?_) (fun hb1 => ?_)
  ·
   replace hb1 := nb_tt hb1
   have hk1 : k < h.cells.length := by omega
   obtain ⟨g5, o5, E5, d5, rfl, hp5, cc50, hE50⟩ := hAl0.cell hk1
   have cc5 := cc50.grow G
   have hE5 := hE50.grow G
   have hz5 := hz3 k hk1
   have hq1 := refsUp_le (cs := h.cells) (sk := fun i => m.testBit i) (Nat.le_of_lt hk1)
   have hq2 := rsum_succ hk1
   have hq3 := rsum_mono (cs := h.cells) (k := k + 1) (n := h.cells.length) (by omega) (Nat.le_refl _)
   refine wp_skip ?_
   refine th_n (hK8 _ _ ?_)
   clear hK8 K8
   refine wp_seq_k fun K9 hK9 => ?_
   refine wp_block ?_
   refine wp_seq_k fun K10 hK10 => ?_
   refine Sb 36 rfl ?_
   refine Smv rfl ?_
   refine S_val (Y_index U23 sz50 rfl rfl (by first | assumption | omega)) ?_
   refine S_val (Y_loadS U50 rfl sz50 rfl (by first | assumption | exact B1.row (by rfl) | exact B3.row (by rfl) | exact B2.row (by rfl))) ?_
   refine S_alloc (cs := [_, _, _]) zr50 rfl ?_
   intro b7 w7 fb7 g7 B7
   have lb7 := B7.lt
   replace hAl := hAl.grow g7
   replace hBl := hBl.grow g7
   replace cc5 := cc5.grow g7
   replace hE5 := hE5.grow g7
   replace G := G.grow g7
   replace GL6 := GL6.grow g7
   replace B1 := B1.grow g7
   replace B3 := B3.grow g7
   replace B2 := B2.grow g7
   have zg7 := g7.size
   refine Sas rfl ?_
   refine S_stM (pre := []) (old := [_, _, _]) (post := []) (vs := [_, _, _]) sz50 rfl rfl rfl (by first | rfl | assumption) B7 rfl rfl ?_
   intro w8 m8 X8
   replace B7 := Blk.eq (ys := [_, _, _]) X8 rfl
   clear X8
   replace G := G.abv m8
   first | replace GL6 := GL6.abv m8 | try clear GL6
   replace hAl := hAl0.grow G
   replace hBl := hBl0.grow G
   replace cc5 := cc50.grow G
   replace hE5 := hE50.grow G
   replace B1 := B1.md m8
   replace B3 := B3.md m8
   replace B2 := B2.md m8
   have zm8 := m8.size
   refine S_nl rfl rfl ?_
   refine th_n (hK10 _ _ ?_)
   clear hK10 K10
   refine wp_seq_k fun K11 hK11 => ?_
   refine Sb 36 rfl ?_
   refine Smv rfl ?_
   refine Smv rfl ?_
   refine S_call rfl en40 (impl_cellSet_has_c _ _ _ (by assumption)) ?_
   rintro v w' ⟨rfl, rfl⟩
   refine S_val (Y_not rfl) ?_
   refine S_nl rfl rfl ?_
   refine th_n (hK11 _ _ ?_)
   clear hK11 K11
   refine S_if rfl (fun hb2 => ?_) (fun hb2 => ?_)
   ·
    first | with_reducible (replace hb2 := nb_nt hb2) | with_reducible (replace hb2 := nb_tt hb2) | with_reducible (replace hb2 := nb_bt hb2) | skip
    rw [hasB_nat] at hb2
    refine Sb 36 rfl ?_
    refine Smv rfl ?_
    refine S_val (Y_field U50 rfl fz50_2 (by decide) rfl) ?_
    refine S_val (Y_load U24 rfl rfl (B7.at (by rfl))) ?_
    refine S_callc rfl rfl en63 (impl_refCounts_1_c _ _ _ _ h.cells.length w.heap.size b3 b2 _ hE5 B3 B2 (hl.refs hk1) (by rw [List.length_append]; omega) ⟨by omega, by omega⟩) ?_
    rintro v10 w10 ⟨X10, m10⟩
    replace B2 := X10
    clear X10
    replace G := G.abv m10
    replace GL6 := GL6.trn m10
    replace hAl := hAl0.grow G
    replace hBl := hBl0.grow G
    replace cc5 := cc50.grow G
    replace hE5 := hE50.grow G
    replace B1 := B1.md m10
    replace B3 := B3.md m10
    replace B7 := B7.md m10
    have zm10 := m10.size
    refine S_nl rfl rfl ?_
    refine ib_n ?_
    refine th_n (hK9 _ _ ?_)
    clear hK9 K9
    refine Sb 36 rfl ?_
    refine S_val (Y_inc rfl rfl (by omega)) ?_
    refine Smv rfl ?_
    refine S_nl rfl rfl ?_
    refine th_n ?_
    go_roundw
    case rel =>
     refine ⟨?_, GL6⟩
     exact ⟨k + 1, rfl, by omega, by rw [refsUp_succ hk1 hb2, ← List.append_assoc]; exact B2⟩
    case measure =>
     exact dec_nat (by omega)
   first | with_reducible (replace hb2 := nb_nf hb2) | with_reducible (replace hb2 := nb_tf hb2) | with_reducible (replace hb2 := nb_bf hb2) | skip
   rw [hasB_nat] at hb2
   refine wp_skip ?_
   refine ib_n ?_
   refine th_n (hK9 _ _ ?_)
   clear hK9 K9
   refine Sb 36 rfl ?_
   refine S_val (Y_inc rfl rfl (by omega)) ?_
   refine Smv rfl ?_
   refine S_nl rfl rfl ?_
   refine th_n ?_
   go_roundw
   case rel =>
    refine ⟨?_, GL6⟩
    exact ⟨k + 1, rfl, by omega, by rw [refsUp_skip hb2]; exact B2⟩
   case measure =>
    exact dec_nat (by omega)
  replace hb1 := nb_tf hb1
  refine wp_exit ?_
  refine th_x ?_
  try clear GL6
  refine th_x ?_
  refine ib_e ?_
  refine th_n (hK5 _ _ ?_)
  clear hK8 K8 hK5 K5
  refine wp_seq_k fun K12 hK12 => ?_
  refine Sb 36 rfl ?_
  refine S_val (Y_load U24 rfl rfl (B3.at (by rfl))) ?_
  refine Sas rfl ?_
  refine S_nl rfl rfl ?_
  refine th_n (hK12 _ _ ?_)
  clear hK12 K12
  refine wp_ret ?_
  refine ret_r1 rfl rfl ?_
  have : k = h.cells.length := by omega
  subst this
  exact ⟨b2, rfl, by omega, B2, G⟩
set_option maxHeartbeats 400000 in
set_option maxRecDepth 20000 in
theorem spec_RefCounts_c (Pr : Nat → Prop) (A B : Option Addr) (h : LH) (c d : Nat) (w : World) (hA : RC Pr w A h.cells) (hB : R1 Pr w B (ints h.roots)) (hz : hsize h ≤ 1048576) :
    Calls Try.prog 49 #[.agg #[.slice A h.cells.length c, .slice B h.roots.length d]] w (Ret fun v w' => ∃ A1 q cap, v = .slice A1 q cap ∧ q = (countsV h).length ∧ OI (fun i => w.heap.size ≤ i) w' 3 A1 (ints (countsV h)) ∧ Grow w w') := by
 refine enter Try.func49 rfl Try.ntmps49 (L := [_,_,_,_,_,_,_,_,_]) rfl ?_
 have G := Mod.refl No w
 have hA0 := hA
 have hB0 := hB
 refine wp_seq_k fun K1 hK1 => ?_
 refine Sb 9 rfl ?_
 refine S_box (cs := [_, _]) rfl rfl ?_
 intro b1 w1 fb1 g1 B1
 have lb1 := B1.lt
 replace hA := hA.grow g1
 replace hB := hB.grow g1
 replace G := G.grow g1
 have zg1 := g1.size
 refine Sas rfl ?_
 refine S_nl rfl rfl ?_
 refine th_n (hK1 _ _ ?_)
 clear hK1 K1
 refine wp_seq_k fun K2 hK2 => ?_
 refine wp_seq_k fun K3 hK3 => ?_
 refine Sb 9 rfl ?_
 refine S_val (Y_loadS U26 rfl sz26 rfl (B1.row (by rfl))) ?_
 refine S_call rfl en44 (spec_HeapValid_c _ _ _ _ _ _ _ (by assumption) (by assumption) (by omega)) ?_
 rintro v2 w2 ⟨rfl, g2⟩
 replace hA := hA.grow g2
 replace hB := hB.grow g2
 replace G := G.grow g2
 replace B1 := B1.grow g2
 have zg2 := g2.size
 refine S_val (Y_not rfl) ?_
 refine S_nl rfl rfl ?_
 refine th_n (hK3 _ _ ?_)
 clear hK3 K3
 refine S_if rfl (fun hb1 => ?_) (fun hb1 => ?_)
 ·
  first | with_reducible (replace hb1 := nb_nt hb1) | with_reducible (replace hb1 := nb_tt hb1) | with_reducible (replace hb1 := nb_bt hb1) | skip
  refine wp_seq_k fun K4 hK4 => ?_
  refine Sb 9 rfl ?_
  refine S_bs0 U24 sz3 ?_
  intro b3 w3 fb3 g3 B3
  have lb3 := B3.lt
  replace hA := hA.grow g3
  replace hB := hB.grow g3
  replace G := G.grow g3
  replace B1 := B1.grow g3
  have zg3 := g3.size
  refine Sas rfl ?_
  refine S_nl rfl rfl ?_
  refine th_n (hK4 _ _ ?_)
  clear hK4 K4
  refine wp_ret ?_
  refine th_r ?_
  clear hK2 K2
  refine ret_r1 rfl rfl ?_
  exact ⟨_, _, _, rfl, by rw [countsV_f hb1]; rfl, by rw [countsV_f hb1]; exact OI.nil _ _ _ _, G⟩
 first | with_reducible (replace hb1 := nb_nf hb1) | with_reducible (replace hb1 := nb_tf hb1) | with_reducible (replace hb1 := nb_bf hb1) | skip
 have va := valid_iff.1 hb1
 have hl := va.leads
 have h40 := va.le
 have hr4 := va.roots4
 refine wp_skip ?_
 refine th_n (hK2 _ _ ?_)
 clear hK2 K2
 refine wp_seq_k fun K5 hK5 => ?_
 refine Sb 9 rfl ?_
 refine S_val (Y_loadS U26 rfl sz26 rfl (B1.row (by rfl))) ?_
 refine S_call rfl en28 (spec_l7Counts_c _ _ _ _ _ _ _ (by assumption) (by assumption) (by omega) (by assumption)) ?_
 rintro v4 w4 ⟨b4, rfl, fb4, B4, g4⟩
 replace hA := hA.grow g4
 replace hB := hB.grow g4
 replace G := G.grow g4
 replace B1 := B1.grow g4
 have zg4 := g4.size
 have lb4 := B4.lt
 refine Sas rfl ?_
 refine S_nl rfl rfl ?_
 refine th_n (hK5 _ _ ?_)
 clear hK5 K5
 refine wp_ret ?_
 refine ret_r1 rfl rfl ?_
 exact ⟨_, _, _, rfl, by rw [countsV_t hb1, cntL_len], by rw [countsV_t hb1]; exact OI.of_blk' (by first | assumption | (simp only [Nat.zero_testBit] at B3; assumption)) (by omega), G⟩
end
/-! WalkU -/
section
open Go Go.RowKit
attribute [local irreducible] wpList wpAnyH Code.wp dOp
set_option maxHeartbeats 400000 in
set_option maxRecDepth 20000 in
theorem impl_cellsFrom_c (Pr : Nat → Prop) (A B : Option Addr) (h : LH) (c d : Nat) (x : Int) (w : World) (hA : RC Pr w A h.cells) (hB : R1 Pr w B (ints h.roots)) (hz : hsize h ≤ 1048576) (va : Valid h) :
    Calls Try.prog 55 #[.agg #[.slice A h.cells.length c, .slice B h.roots.length d], .int .i64 x] w (Ret fun v w' => ∃ m u : Nat, v = .int .u64 (m : Int) ∧ m < 2 ^ 64 ∧ SetOf u (usedL h.cells) ∧ (∀ n, m.testBit n = true ↔ Rch h.cells [x] (hasB u) n) ∧ Grow w w') := by
 have hz1 := hsize_cells h
 have hz2 := hsize_roots h
 have h40 := va.le
 refine enter Try.func55 rfl Try.ntmps55 (L := [_,_,_,_,_,_,_,_,_,_,_]) rfl ?_
 have G := Mod.refl No w
 have hA0 := hA
 have hB0 := hB
 refine wp_seq_k fun K1 hK1 => ?_
 refine Sb 11 rfl ?_
 refine S_box (cs := [_, _]) rfl rfl ?_
 intro b1 w1 fb1 g1 B1
 have lb1 := B1.lt
 replace hA := hA.grow g1
 replace hB := hB.grow g1
 replace G := G.grow g1
 have zg1 := g1.size
 refine Sas rfl ?_
 refine S_nl rfl rfl ?_
 refine th_n (hK1 _ _ ?_)
 clear hK1 K1
 refine wp_seq_k fun K2 hK2 => ?_
 refine D_start 7 11 (fun w => Mod (No) w) follows rfl rfl ?_
 intro w2 g2
 replace hA := hA.grow g2
 replace hB := hB.grow g2
 replace G := G.grow g2
 replace B1 := B1.grow g2
 have zg2 := g2.size
 have GS2 := Mod.refl (No) w2
 have B1d2 := B1
 refine Dq (i := 0) rfl GS2 (fun _ hs => Y_loadS U26 rfl sz26 rfl (by first | exact hs.cells0 (B1.row (by rfl)))) ?_
 refine Dq (i := 1) rfl GS2 (fun _ _ => Y_move rfl) ?_
 refine Dq (i := 3) rfl GS2 (fun _ hs => Y_loadS U26 rfl sz26 rfl (by first | exact hs.cells0 (B1.row (by rfl)))) ?_
 refine D_2 (i := 2) (j := 4) (by kernel_rfl) ?_ ?_
 ·
  refine E_bs1 (cs := [_]) (i := 2) rfl U24 zr3 sz3 rfl rfl rfl ?_
  intro b3 w3 fb3 g3 B3
  refine ⟨GS2.grow g3, ?_⟩
  have lb3 := B3.lt
  replace hA := hA.grow g3
  replace hB := hB.grow g3
  replace G := G.grow g3
  replace GS2 := GS2.grow g3
  replace B1 := B1.grow g3
  have zg3 := g3.size
  refine D_1 (i := 4) (by kernel_rfl) ?_
  refine E_call rfl rfl en34 (impl_usedSet_c _ _ _ _ _ _ _ (by assumption) (by omega)) ?_
  rintro v4 w4 ⟨s4, rfl, hs4, g4⟩
  replace hA := hA.grow g4
  replace hB := hB.grow g4
  replace G := G.grow g4
  replace GS2 := GS2.grow g4
  replace B1 := B1.grow g4
  replace B3 := B3.grow g4
  have zg4 := g4.size
  refine ⟨GS2, ?_⟩
  refine D_1 (i := 5) (by kernel_rfl) ?_
  refine E_call rfl rfl en56 (impl_closure_c _ _ _ _ _ h [x] _ _ _ _ _ hA (R1.of_blkE (us := ints [x]) B3) (by omega) (by simp) hs4.1 hs4.lt (by omega)) ?_
  rintro v5 w5 ⟨s5, rfl, hs5, hr5, g5⟩
  replace hA := hA.grow g5
  replace hB := hB.grow g5
  replace G := G.grow g5
  replace GS2 := GS2.grow g5
  replace B1 := B1.grow g5
  replace B3 := B3.grow g5
  have zg5 := g5.size
  refine ⟨GS2, ?_⟩
  refine Dq (i := 6) rfl GS2 (fun _ _ => Y_assign rfl) ?_
  refine D_en (by kernel_rfl) rfl rfl ?_
  refine th_n (hK2 _ _ ?_)
  clear hK2 K2
  refine wp_ret ?_
  refine ret_r1 rfl rfl ?_
  exact ⟨_, _, rfl, hs5, hs4, hr5, G⟩
 refine E_call rfl rfl en34 (impl_usedSet_c _ _ _ _ _ _ _ (by assumption) (by omega)) ?_
 rintro v6 w6 ⟨s6, rfl, hs6, g6⟩
 replace hA := hA.grow g6
 replace hB := hB.grow g6
 replace G := G.grow g6
 replace GS2 := GS2.grow g6
 replace B1 := B1.grow g6
 have zg6 := g6.size
 refine ⟨GS2, ?_⟩
 refine D_1 (i := 2) (by kernel_rfl) ?_
 refine E_bs1 (cs := [_]) (i := 2) rfl U24 zr3 sz3 rfl rfl rfl ?_
 intro b7 w7 fb7 g7 B7
 refine ⟨GS2.grow g7, ?_⟩
 have lb7 := B7.lt
 replace hA := hA.grow g7
 replace hB := hB.grow g7
 replace G := G.grow g7
 replace GS2 := GS2.grow g7
 replace B1 := B1.grow g7
 have zg7 := g7.size
 refine D_1 (i := 5) (by kernel_rfl) ?_
 refine E_call rfl rfl en56 (impl_closure_c _ _ _ _ _ h [x] _ _ _ _ _ hA (R1.of_blkE (us := ints [x]) B7) (by omega) (by simp) hs6.1 hs6.lt (by omega)) ?_
 rintro v8 w8 ⟨s8, rfl, hs8, hr8, g8⟩
 replace hA := hA.grow g8
 replace hB := hB.grow g8
 replace G := G.grow g8
 replace GS2 := GS2.grow g8
 replace B1 := B1.grow g8
 replace B7 := B7.grow g8
 have zg8 := g8.size
 refine ⟨GS2, ?_⟩
 refine Dq (i := 6) rfl GS2 (fun _ _ => Y_assign rfl) ?_
 refine D_en (by kernel_rfl) rfl rfl ?_
 refine th_n (hK2 _ _ ?_)
 clear hK2 K2
 refine wp_ret ?_
 refine ret_r1 rfl rfl ?_
 exact ⟨_, _, rfl, hs8, hs6, hr8, G⟩
set_option maxHeartbeats 400000 in
set_option maxRecDepth 20000 in
theorem spec_CellsFrom_c (Pr : Nat → Prop) (A B : Option Addr) (h : LH) (c d : Nat) (x : Int) (w : World) (hA : RC Pr w A h.cells) (hB : R1 Pr w B (ints h.roots)) (hz : hsize h ≤ 1048576) (hx : -9223372036854775808 ≤ x ∧ x ≤ 9223372036854775807) :
    Calls Try.prog 57 #[.agg #[.slice A h.cells.length c, .slice B h.roots.length d], .int .i64 x] w (Ret fun v w' => ∃ A1 q cap, v = .slice A1 q cap ∧ q = (fromV h x).length ∧ OI (fun i => w.heap.size ≤ i) w' 4 A1 (bools (fromV h x)) ∧ Grow w w') := by
 have hz1 := hsize_cells h
 have hz2 := hsize_roots h
 refine enter Try.func57 rfl Try.ntmps57 (L := [_,_,_,_,_,_,_,_,_,_,_,_,_,_,_,_,_,_,_,_,_,_,_,_,_,_,_,_,_,_,_]) rfl ?_
 have G := Mod.refl No w
 have hA0 := hA
 have hB0 := hB
 refine wp_seq_k fun K1 hK1 => ?_
 refine Sb 31 rfl ?_
 refine S_box (cs := [_, _]) rfl rfl ?_
 intro b1 w1 fb1 g1 B1
 have lb1 := B1.lt
 replace hA := hA.grow g1
 replace hB := hB.grow g1
 replace G := G.grow g1
 have zg1 := g1.size
 refine Sas rfl ?_
 refine S_nl rfl rfl ?_
 refine th_n (hK1 _ _ ?_)
 clear hK1 K1
 refine wp_seq_k fun K2 hK2 => ?_
 refine wp_seq_k fun K3 hK3 => ?_
 refine Sb 31 rfl ?_
 refine S_val (Y_loadS U26 rfl sz26 rfl (B1.row (by rfl))) ?_
 refine S_call rfl en44 (spec_HeapValid_c _ _ _ _ _ _ _ (by assumption) (by assumption) (by omega)) ?_
 rintro v2 w2 ⟨rfl, g2⟩
 replace hA := hA.grow g2
 replace hB := hB.grow g2
 replace G := G.grow g2
 replace B1 := B1.grow g2
 have zg2 := g2.size
 refine S_val (Y_not rfl) ?_
 refine Smv rfl ?_
 refine S_g 8 rfl (fun hb1 => ?_) (fun hb1 => ?_)
 ·
  first | with_reducible (replace hb1 := nb_nt hb1) | with_reducible (replace hb1 := nb_tt hb1) | with_reducible (replace hb1 := nb_bt hb1) | skip
  refine S_off rfl rfl ?_
  refine S_off rfl rfl ?_
  refine S_off rfl rfl ?_
  refine S_off rfl rfl ?_
  refine S_off rfl rfl ?_
  refine S_off rfl rfl ?_
  refine S_off rfl rfl ?_
  refine S_val (Y_pickT rfl rfl) ?_
  refine Smv rfl ?_
  refine S_off rfl rfl ?_
  refine S_off rfl rfl ?_
  refine S_off rfl rfl ?_
  refine S_off rfl rfl ?_
  refine S_off rfl rfl ?_
  refine S_off rfl rfl ?_
  refine S_off rfl rfl ?_
  refine S_val (Y_pickT rfl rfl) ?_
  refine S_nl rfl rfl ?_
  refine th_n (hK3 _ _ ?_)
  clear hK3 K3
  refine S_ifT rfl ?_
  refine wp_seq_k fun K4 hK4 => ?_
  refine Sb 31 rfl ?_
  refine S_bs0 U40 sz4 ?_
  intro b3 w3 fb3 g3 B3
  have lb3 := B3.lt
  replace hA := hA.grow g3
  replace hB := hB.grow g3
  replace G := G.grow g3
  replace B1 := B1.grow g3
  have zg3 := g3.size
  refine Sas rfl ?_
  refine S_nl rfl rfl ?_
  refine th_n (hK4 _ _ ?_)
  clear hK4 K4
  refine wp_ret ?_
  refine th_r ?_
  clear hK2 K2
  refine ret_r1 rfl rfl ?_
  exact ⟨_, _, _, rfl, by rw [fromV_f (usedR_f hb1)]; rfl, by rw [fromV_f (usedR_f hb1)]; exact OI.nil _ _ _ _, G⟩
 first | with_reducible (replace hb1 := nb_nf hb1) | with_reducible (replace hb1 := nb_tf hb1) | with_reducible (replace hb1 := nb_bf hb1) | skip
 have va := valid_iff.1 hb1
 have hl := va.leads
 have h40 := va.le
 have hr4 := va.roots4
 refine S_on rfl rfl ?_
 refine Smv rfl ?_
 refine S_on rfl rfl ?_
 refine S_val (Y_field U26 rfl fz26_0 (by decide) rfl) ?_
 refine S_on rfl rfl ?_
 refine S_val (Y_load U23 rfl rfl (B1.at (by rfl))) ?_
 refine S_on rfl rfl ?_
 refine S_val (Y_len U23 rfl) ?_
 refine S_on rfl rfl ?_
 refine S_val (Y_sub rfl rfl rfl (by omega) (by omega)) ?_
 refine S_on rfl rfl ?_
 refine S_call rfl en45 (spec_l1In_c _ _ _ _) ?_
 rintro v w' ⟨rfl, rfl⟩
 refine S_on rfl rfl ?_
 refine S_val (Y_not rfl) ?_
 refine S_val (Y_pickF rfl rfl) ?_
 refine Smv rfl ?_
 refine S_g 17 rfl (fun hb2 => ?_) (fun hb2 => ?_)
 ·
  first | with_reducible (replace hb2 := nb_nt hb2) | with_reducible (replace hb2 := nb_tt hb2) | with_reducible (replace hb2 := nb_bt hb2) | skip
  refine S_off rfl rfl ?_
  refine S_off rfl rfl ?_
  refine S_off rfl rfl ?_
  refine S_off rfl rfl ?_
  refine S_off rfl rfl ?_
  refine S_off rfl rfl ?_
  refine S_off rfl rfl ?_
  refine S_val (Y_pickT rfl rfl) ?_
  refine S_nl rfl rfl ?_
  refine th_n (hK3 _ _ ?_)
  clear hK3 K3
  refine S_ifT rfl ?_
  refine wp_seq_k fun K5 hK5 => ?_
  refine Sb 31 rfl ?_
  refine S_bs0 U40 sz4 ?_
  intro b5 w5 fb5 g5 B5
  have lb5 := B5.lt
  replace hA := hA.grow g5
  replace hB := hB.grow g5
  replace G := G.grow g5
  replace B1 := B1.grow g5
  have zg5 := g5.size
  refine Sas rfl ?_
  refine S_nl rfl rfl ?_
  refine th_n (hK5 _ _ ?_)
  clear hK5 K5
  refine wp_ret ?_
  refine th_r ?_
  clear hK2 K2
  refine ret_r1 rfl rfl ?_
  exact ⟨_, _, _, rfl, by rw [fromV_f (usedR_out hb2)]; rfl, by rw [fromV_f (usedR_out hb2)]; exact OI.nil _ _ _ _, G⟩
 first | with_reducible (replace hb2 := nb_nf hb2) | with_reducible (replace hb2 := nb_tf hb2) | with_reducible (replace hb2 := nb_bf hb2) | skip
 obtain ⟨n, rfl⟩ := Int.eq_ofNat_of_zero_le (show 0 ≤ x by omega)
 have hnN : n < h.cells.length := by omega
 obtain ⟨g2, o2, E2, d2, rfl, hp2, cc20, _⟩ := hA0.cell hnN
 have cc2 := cc20.grow G
 refine S_on rfl rfl ?_
 refine S_val (Y_field U26 rfl fz26_0 (by decide) rfl) ?_
 refine S_on rfl rfl ?_
 refine S_val (Y_load U23 rfl rfl (B1.at (by rfl))) ?_
 refine S_on rfl rfl ?_
 refine Smv rfl ?_
 refine S_on rfl rfl ?_
 refine S_val (Y_index U23 sz50 rfl rfl (by first | assumption | omega)) ?_
 refine S_on rfl rfl ?_
 refine S_val (Y_field U50 rfl fz50_0 (by decide) rfl) ?_
 refine S_on rfl rfl ?_
 refine S_val (Y_load U4 rfl rfl (by first | assumption | exact cc2.at (by rfl) | exact B1.at (by rfl))) ?_
 refine S_on rfl rfl ?_
 refine S_val (Y_not rfl) ?_
 refine S_val (Y_pickF rfl rfl) ?_
 refine S_nl rfl rfl ?_
 refine th_n (hK3 _ _ ?_)
 clear hK3 K3
 refine S_if rfl (fun hb3 => ?_) (fun hb3 => ?_)
 ·
  first | with_reducible (replace hb3 := nb_nt hb3) | with_reducible (replace hb3 := nb_tt hb3) | with_reducible (replace hb3 := nb_bt hb3) | skip
  refine wp_seq_k fun K6 hK6 => ?_
  refine Sb 31 rfl ?_
  refine S_bs0 U40 sz4 ?_
  intro b6 w6 fb6 g6 B6
  have lb6 := B6.lt
  replace hA := hA.grow g6
  replace hB := hB.grow g6
  replace cc2 := cc2.grow g6
  replace G := G.grow g6
  replace B1 := B1.grow g6
  have zg6 := g6.size
  refine Sas rfl ?_
  refine S_nl rfl rfl ?_
  refine th_n (hK6 _ _ ?_)
  clear hK6 K6
  refine wp_ret ?_
  refine th_r ?_
  clear hK2 K2
  refine ret_r1 rfl rfl ?_
  exact ⟨_, _, _, rfl, by rw [fromV_f (by rw [usedR_at hb1 hnN]; exact hb3)]; rfl, by rw [fromV_f (by rw [usedR_at hb1 hnN]; exact hb3)]; exact OI.nil _ _ _ _, G⟩
 first | with_reducible (replace hb3 := nb_nf hb3) | with_reducible (replace hb3 := nb_tf hb3) | with_reducible (replace hb3 := nb_bf hb3) | skip
 have hun : usedAt h.cells n = true := by rw [usedAt_at hnN]; exact hb3
 refine wp_skip ?_
 refine th_n (hK2 _ _ ?_)
 clear hK2 K2
 refine wp_seq_k fun K7 hK7 => ?_
 refine Sb 31 rfl ?_
 refine S_val (Y_loadS U26 rfl sz26 rfl (B1.row (by rfl))) ?_
 refine Smv rfl ?_
 refine S_bs1 (cs := [_]) U24 zr3 sz3 rfl rfl rfl ?_
 intro b7 w7 fb7 g7 B7
 have lb7 := B7.lt
 replace hA := hA.grow g7
 replace hB := hB.grow g7
 replace cc2 := cc2.grow g7
 replace G := G.grow g7
 replace B1 := B1.grow g7
 have zg7 := g7.size
 refine S_call rfl en46 (spec_l7Reach_c _ _ _ _ _ h [(n : Int)] _ _ _ _ hA (R1.of_blkE (us := ints [(n : Int)]) B7) (by omega) (by simp) (leads_one va hnN)) ?_
 rintro v8 w8 ⟨b8, rfl, fb8, B8, g8⟩
 replace hA := hA.grow g8
 replace hB := hB.grow g8
 replace cc2 := cc2.grow g8
 replace G := G.grow g8
 replace B1 := B1.grow g8
 replace B7 := B7.grow g8
 have zg8 := g8.size
 have lb8 := B8.lt
 refine Sas rfl ?_
 refine S_nl rfl rfl ?_
 refine th_n (hK7 _ _ ?_)
 clear hK7 K7
 refine wp_ret ?_
 refine ret_r1 rfl rfl ?_
 have hut : usedR h (n : Int) = true := by rw [usedR_at hb1 hnN]; exact hb3
 exact ⟨_, _, _, rfl, by rw [fromV_t hut, mB_len], by rw [fromV_t hut]; exact OI.of_blk' (by assumption) (by omega), G⟩
set_option maxHeartbeats 400000 in
set_option maxRecDepth 20000 in
theorem impl_CountedValid_c (Pr : Nat → Prop) (A B C : Option Addr) (h : LH) (xs : List Int) (c d e : Nat) (w : World) (hA : RC Pr w A h.cells) (hB : R1 Pr w B (ints h.roots)) (hC : R1 Pr w C (ints xs)) (hz : hsize h ≤ 1048576) (hxz : xs.length ≤ 1048576) :
    Calls Try.prog 11 #[.agg #[.slice A h.cells.length c, .slice B h.roots.length d, .slice C xs.length e]] w (Ret fun v w' => v = .bool (cvalB h xs) ∧ Grow w w') := by
 have hz1 := hsize_cells h
 have hz2 := hsize_roots h
 refine enter Try.func11 rfl Try.ntmps11 (L := [_,_,_,_,_,_,_,_,_,_,_,_,_,_]) rfl ?_
 have G := Mod.refl No w
 have hA0 := hA
 have hB0 := hB
 have hC0 := hC
 refine wp_seq_k fun K1 hK1 => ?_
 refine Sb 14 rfl ?_
 refine S_box (cs := [_, _, _]) rfl rfl ?_
 intro b1 w1 fb1 g1 B1
 have lb1 := B1.lt
 replace hA := hA.grow g1
 replace hB := hB.grow g1
 replace hC := hC.grow g1
 replace G := G.grow g1
 have zg1 := g1.size
 refine Sas rfl ?_
 refine S_nl rfl rfl ?_
 refine th_n (hK1 _ _ ?_)
 clear hK1 K1
 refine wp_seq_k fun K2 hK2 => ?_
 refine D_start 12 14 (fun w => Mod (No) w) follows rfl rfl ?_
 intro w2 g2
 replace hA := hA.grow g2
 replace hB := hB.grow g2
 replace hC := hC.grow g2
 replace G := G.grow g2
 replace B1 := B1.grow g2
 have zg2 := g2.size
 have GS2 := Mod.refl (No) w2
 have B1d2 := B1
 refine Dq (i := 0) rfl GS2 (fun _ _ => Y_field U28 rfl fz28_0 (by decide) rfl) ?_
 refine Dq (i := 1) rfl GS2 (fun _ hs => Y_loadS U26 rfl sz26 rfl (by first | exact hs.cells0 ((CellsAt.of_blk (pre := []) (us := [_, _]) (post := [_]) B1 rfl)))) ?_
 refine D_1 (i := 2) (by kernel_rfl) ?_
 refine E_call rfl rfl en32 (impl_HeapValid_c _ _ _ _ _ _ _ (by assumption) (by assumption) (by omega)) ?_
 rintro v3 w3 ⟨rfl, g3⟩
 replace hA := hA.grow g3
 replace hB := hB.grow g3
 replace hC := hC.grow g3
 replace G := G.grow g3
 replace GS2 := GS2.grow g3
 replace B1 := B1.grow g3
 have zg3 := g3.size
 refine ⟨GS2, ?_⟩
 refine Dq (i := 3) rfl GS2 (fun _ _ => Y_move rfl) ?_
 refine D_g 6 rfl (fun hb1 => ?_) (fun hb1 => ?_)
 ·
  first | with_reducible (replace hb1 := nb_nt hb1) | with_reducible (replace hb1 := nb_tt hb1) | with_reducible (replace hb1 := nb_bt hb1) | skip
  have va := valid_iff.1 hb1
  have hl := va.leads
  have h40 := va.le
  have hr4 := va.roots4
  refine Dqon (i := 4) rfl rfl rfl GS2 (fun _ _ => Y_field U28 rfl fz28_1 (by decide) rfl) ?_
  refine Dqon (i := 5) rfl rfl rfl GS2 (fun _ hs => Y_load U24 rfl rfl (by first | exact hs.cell0 (B1.at (by rfl)) | exact hs.cell0 (B1d2.at (by rfl)))) ?_
  refine Dqon (i := 6) rfl rfl rfl GS2 (fun _ _ => Y_field U28 rfl fz28_0 (by decide) rfl) ?_
  refine Dqon (i := 7) rfl rfl rfl GS2 (fun _ hs => Y_loadS U26 rfl sz26 rfl (by first | exact hs.cells0 ((CellsAt.of_blk (pre := []) (us := [_, _]) (post := [_]) B1 rfl)) | exact hs.cells0 ((CellsAt.of_blk (pre := []) (us := [_, _]) (post := [_]) B1d2 rfl)))) ?_
  refine D_1 (i := 8) (by kernel_rfl) ?_
  refine E_calln rfl rfl rfl rfl en38 (impl_refCounts_c _ _ _ h _ _ 0 _ hA hB (by omega) hl (by decide)) ?_
  rintro v4 w4 ⟨b4, rfl, fb4, B4, g4⟩
  replace hA := hA.grow g4
  replace hB := hB.grow g4
  replace hC := hC.grow g4
  replace G := G.grow g4
  replace GS2 := GS2.grow g4
  replace B1 := B1.grow g4
  have zg4 := g4.size
  have lb4 := B4.lt
  rw [show (fun i => Nat.testBit 0 i) = (fun _ => false) by funext i; simp] at B4
  have hRc := R1.of_blkE B4
  refine ⟨GS2, ?_⟩
  refine D_1 (i := 9) (by kernel_rfl) ?_
  refine E_calln rfl rfl rfl rfl en37 (by have h0 := impl_sameInts_c _ _ _ _ xs (cntL h.cells.length (refsAll h fun _ => false)) e h.cells.length _ hC hRc (by omega); rw [cntL_len] at h0; exact h0) ?_
  rintro v5 w5 ⟨rfl, g5⟩
  replace hA := hA.grow g5
  replace hB := hB.grow g5
  replace hC := hC.grow g5
  replace hRc := hRc.grow g5
  replace G := G.grow g5
  replace GS2 := GS2.grow g5
  replace B1 := B1.grow g5
  replace B4 := B4.grow g5
  have zg5 := g5.size
  refine ⟨GS2, ?_⟩
  refine Dq (i := 10) rfl GS2 (fun _ _ => Y_pickT rfl rfl) ?_
  refine Dq (i := 11) rfl GS2 (fun _ _ => Y_assign rfl) ?_
  refine D_en (by kernel_rfl) rfl rfl ?_
  refine th_n (hK2 _ _ ?_)
  clear hK2 K2
  refine wp_ret ?_
  refine ret_r1 rfl rfl ?_
  exact ⟨by rw [cvalB_t hb1, countsV_t hb1], G⟩
 first | with_reducible (replace hb1 := nb_nf hb1) | with_reducible (replace hb1 := nb_tf hb1) | with_reducible (replace hb1 := nb_bf hb1) | skip
 refine Dqoff (i := 4) rfl rfl rfl GS2 ?_
 refine Dqoff (i := 5) rfl rfl rfl GS2 ?_
 refine Dqoff (i := 6) rfl rfl rfl GS2 ?_
 refine Dqoff (i := 7) rfl rfl rfl GS2 ?_
 refine Dqoff (i := 8) rfl rfl rfl GS2 ?_
 refine Dqoff (i := 9) rfl rfl rfl GS2 ?_
 refine Dq (i := 10) rfl GS2 (fun _ _ => Y_pickF rfl rfl) ?_
 refine Dq (i := 11) rfl GS2 (fun _ _ => Y_assign rfl) ?_
 refine D_en (by kernel_rfl) rfl rfl ?_
 refine th_n (hK2 _ _ ?_)
 clear hK2 K2
 refine wp_ret ?_
 refine ret_r1 rfl rfl ?_
 exact ⟨by rw [cvalB_f hb1], G⟩
set_option maxHeartbeats 400000 in
set_option maxRecDepth 20000 in
theorem spec_CountedValid_c (Pr : Nat → Prop) (A B C : Option Addr) (h : LH) (xs : List Int) (c d e : Nat) (w : World) (hA : RC Pr w A h.cells) (hB : R1 Pr w B (ints h.roots)) (hC : R1 Pr w C (ints xs)) (hz : hsize h ≤ 1048576) (hxz : xs.length ≤ 1048576) :
    Calls Try.prog 24 #[.agg #[.slice A h.cells.length c, .slice B h.roots.length d, .slice C xs.length e]] w (Ret fun v w' => v = .bool (cvalB h xs) ∧ Grow w w') := by
 have hz1 := hsize_cells h
 have hz2 := hsize_roots h
 refine enter Try.func24 rfl Try.ntmps24 (L := [_,_,_,_,_,_,_,_,_,_,_,_,_,_,_,_,_,_,_,_,_,_,_,_,_,_,_,_,_,_,_,_,_]) rfl ?_
 have G := Mod.refl No w
 have hA0 := hA
 have hB0 := hB
 have hC0 := hC
 refine wp_seq_k fun K1 hK1 => ?_
 refine Sb 33 rfl ?_
 refine S_box (cs := [_, _, _]) rfl rfl ?_
 intro b1 w1 fb1 g1 B1
 have lb1 := B1.lt
 replace hA := hA.grow g1
 replace hB := hB.grow g1
 replace hC := hC.grow g1
 replace G := G.grow g1
 have zg1 := g1.size
 refine Sas rfl ?_
 refine S_nl rfl rfl ?_
 refine th_n (hK1 _ _ ?_)
 clear hK1 K1
 refine wp_seq_k fun K2 hK2 => ?_
 refine Sb 33 rfl ?_
 refine S_val (Y_field U28 rfl fz28_0 (by decide) rfl) ?_
 refine S_val (Y_loadS U26 rfl sz26 rfl (CellsAt.of_blk (pre := []) (us := [_, _]) (post := [_]) B1 rfl)) ?_
 refine S_call rfl en49 (spec_RefCounts_c _ _ _ _ _ _ _ (by assumption) (by assumption) (by omega)) ?_
 rintro v2 w2 ⟨A2, q2, cap2, rfl, hq2, O2, g2⟩
 replace hA := hA.grow g2
 replace hB := hB.grow g2
 replace hC := hC.grow g2
 replace G := G.grow g2
 replace B1 := B1.grow g2
 have zg2 := g2.size
 subst hq2
 replace O2 := O2.lt
 have hRw := O2.r1
 have hcl := countsV_len h
 refine Sas rfl ?_
 refine S_nl rfl rfl ?_
 refine th_n (hK2 _ _ ?_)
 clear hK2 K2
 refine wp_seq_k fun K3 hK3 => ?_
 refine wp_seq_k fun K4 hK4 => ?_
 refine Sb 33 rfl ?_
 refine Smv rfl ?_
 refine S_val (Y_len U24 rfl) ?_
 refine S_val (Y_field U28 rfl fz28_1 (by decide) rfl) ?_
 refine S_val (Y_load U24 rfl rfl (B1.at (by rfl))) ?_
 refine S_val (Y_len U24 rfl) ?_
 refine S_val (Y_neq rfl rfl) ?_
 refine S_nl rfl rfl ?_
 refine th_n (hK4 _ _ ?_)
 clear hK4 K4
 refine S_if rfl (fun hb1 => ?_) (fun hb1 => ?_)
 ·
  replace hb1 := nb_nt hb1
  refine wp_seq_k fun K5 hK5 => ?_
  refine Sb 33 rfl ?_
  refine Sas rfl ?_
  refine S_nl rfl rfl ?_
  refine th_n (hK5 _ _ ?_)
  clear hK5 K5
  refine wp_ret ?_
  refine th_r ?_
  clear hK3 K3
  refine ret_r1 rfl rfl ?_
  exact ⟨by rw [cvalB_ne (fun e => hb1 (by rw [e]))], G⟩
 replace hb1 := nb_nf hb1
 refine wp_skip ?_
 refine th_n (hK3 _ _ ?_)
 clear hK3 K3
 refine wp_seq_k fun K6 hK6 => ?_
 refine wp_seq_k fun K7 hK7 => ?_
 refine Sb 33 rfl ?_
 refine Sas rfl ?_
 refine S_nl rfl rfl ?_
 refine th_n (hK7 _ _ ?_)
 clear hK7 K7
 refine wp_block ?_
 go_loopw [4] (fun u4 wr => (∃ k : Nat, u4 = .int .i64 k ∧ k ≤ (countsV h).length ∧ (countsV h).take k = xs.take k) ∧ Mod No w2 wr) (fun u4 wr => (countsV h).length - (intOf u4).toNat)
 case atStart =>
  refine ⟨?_, Mod.refl _ _⟩
  exact ⟨0, rfl, by omega, by simp⟩
 case round =>
  obtain ⟨w3, rfl⟩ : ∃ x : World, x = wr := ⟨_, rfl⟩
  obtain ⟨hrel, g3⟩ := hrel
  replace hA := hA.grow g3
  replace hB := hB.grow g3
  replace hC := hC.grow g3
  replace O2 := O2.grow g3
  replace hRw := hRw.grow g3
  replace G := G.grow g3
  replace B1 := B1.grow g3
  have zg3 := g3.size
  obtain ⟨k, rfl, hk, hs⟩ := hrel
  have GL3 := g3
  refine wp_seq_k fun K8 hK8 => ?_
  refine wp_seq_k fun K9 hK9 => ?_
  refine Sb 33 rfl ?_
  refine Smv rfl ?_
  refine Smv rfl ?_
  refine S_val (Y_len U24 rfl) ?_
  refine S_val (Y_lss rfl rfl) ?_
  refine S_nl rfl rfl ?_
  refine th_n (hK9 _ _ ?_)
  clear hK9 K9
  refine S_if rfl (fun hb2 => ?_) (fun hb2 => ?_)
  ·
   replace hb2 := nb_tt hb2
   refine wp_skip ?_
   refine th_n (hK8 _ _ ?_)
   clear hK8 K8
   refine wp_seq_k fun K10 hK10 => ?_
   refine wp_block ?_
   refine wp_seq_k fun K11 hK11 => ?_
   refine D_start 10 33 (fun w => Mod (No) w) follows rfl rfl ?_
   intro w4 g4
   replace hA := hA.grow g4
   replace hB := hB.grow g4
   replace hC := hC.grow g4
   replace O2 := O2.grow g4
   replace hRw := hRw.grow g4
   replace G := G.grow g4
   replace GL3 := GL3.grow g4
   replace B1 := B1.grow g4
   have zg4 := g4.size
   have GS4 := Mod.refl (No) w4
   obtain ⟨g1, o1, rfl, hp1, hc1⟩ := hRw.int (k := k) (by omega)
   obtain ⟨g2, o2, rfl, hp2, hc2⟩ := hC.int (k := k) (by omega)
   have B1d4 := B1
   refine Dq (i := 0) rfl GS4 (fun _ _ => Y_move rfl) ?_
   refine Dq (i := 1) rfl GS4 (fun _ _ => Y_move rfl) ?_
   refine Dq (i := 2) rfl GS4 (fun _ _ => Y_index U24 sz3 rfl rfl (by first | assumption | omega)) ?_
   refine Dq (i := 3) rfl GS4 (fun _ hs => Y_load U3 rfl rfl (by first | exact hs.cell0 (by assumption) | exact hs.cell0 (B1.at (by rfl)))) ?_
   refine Dq (i := 4) rfl GS4 (fun _ _ => Y_field U28 rfl fz28_1 (by decide) rfl) ?_
   refine Dq (i := 5) rfl GS4 (fun _ hs => Y_load U24 rfl rfl (hs.cell0 (B1.at (by rfl)))) ?_
   refine Dq (i := 6) rfl GS4 (fun _ _ => Y_move rfl) ?_
   refine Dq (i := 7) rfl GS4 (fun _ _ => Y_index U24 sz3 rfl rfl (by first | assumption | omega)) ?_
   refine Dq (i := 8) rfl GS4 (fun _ hs => Y_load U3 rfl rfl (by first | exact hs.cell0 (by assumption) | exact hs.cell0 (B1.at (by rfl)))) ?_
   refine Dq (i := 9) rfl GS4 (fun _ _ => Y_neq rfl rfl) ?_
   refine D_en (by kernel_rfl) rfl rfl ?_
   refine th_n (hK11 _ _ ?_)
   clear hK11 K11
   refine S_if rfl (fun hb3 => ?_) (fun hb3 => ?_)
   ·
    replace hb3 := nb_nt hb3
    refine wp_seq_k fun K12 hK12 => ?_
    refine Sb 33 rfl ?_
    refine Sas rfl ?_
    refine S_nl rfl rfl ?_
    refine th_n (hK12 _ _ ?_)
    clear hK12 K12
    refine wp_ret ?_
    refine ib_r ?_
    refine th_r ?_
    try clear GL3
    refine th_r ?_
    refine ib_r ?_
    refine th_r ?_
    clear hK10 K10 hK6 K6
    refine ret_r1 rfl rfl ?_
    exact ⟨by rw [cvalB_ne (fun e => hb3 (by subst e; rfl))], G⟩
   replace hb3 := nb_nf hb3
   refine wp_skip ?_
   refine ib_n ?_
   refine th_n (hK10 _ _ ?_)
   clear hK10 K10
   refine Sb 33 rfl ?_
   refine Smv rfl ?_
   refine S_val (Y_inc rfl rfl (by omega)) ?_
   refine Sas rfl ?_
   refine S_nl rfl rfl ?_
   refine th_n ?_
   go_roundw
   case rel =>
    refine ⟨?_, GL3⟩
    exact ⟨k + 1, rfl, by omega, take_eq hs (by omega) (by omega) hb3⟩
   case measure =>
    exact dec_nat (by omega)
  replace hb2 := nb_tf hb2
  refine wp_exit ?_
  refine th_x ?_
  try clear GL3
  refine th_x ?_
  refine ib_e ?_
  refine th_n (hK6 _ _ ?_)
  clear hK8 K8 hK6 K6
  refine wp_seq_k fun K13 hK13 => ?_
  refine Sb 33 rfl ?_
  refine S_val (Y_field U28 rfl fz28_0 (by decide) rfl) ?_
  refine S_val (Y_loadS U26 rfl sz26 rfl (CellsAt.of_blk (pre := []) (us := [_, _]) (post := [_]) B1 rfl)) ?_
  refine S_call rfl en44 (spec_HeapValid_c _ _ _ _ _ _ _ (by assumption) (by assumption) (by omega)) ?_
  rintro v5 w5 ⟨rfl, g5⟩
  replace hA := hA.grow g5
  replace hB := hB.grow g5
  replace hC := hC.grow g5
  replace O2 := O2.grow g5
  replace hRw := hRw.grow g5
  replace G := G.grow g5
  replace B1 := B1.grow g5
  have zg5 := g5.size
  refine Sas rfl ?_
  refine S_nl rfl rfl ?_
  refine th_n (hK13 _ _ ?_)
  clear hK13 K13
  refine wp_ret ?_
  refine ret_r1 rfl rfl ?_
  exact ⟨by rw [cvalB_eq (take_all hs (by omega) (by omega))], G⟩
end
/-! WalkV -/
section
open Go Go.RowKit
attribute [local irreducible] wpList wpAnyH Code.wp dOp
set_option maxHeartbeats 400000 in
set_option maxRecDepth 20000 in
theorem impl_ViewOf_c (Pr : Nat → Prop) (A B : Option Addr) (h : LH) (c d : Nat) (w : World) (hA : RC Pr w A h.cells) (hB : R1 Pr w B (ints h.roots)) (hz : hsize h ≤ 1048576) :
    Calls Try.prog 41 #[.agg #[.slice A h.cells.length c, .slice B h.roots.length d]] w (Ret fun v w' => ∃ A1 q cap, v = .slice A1 q cap ∧ q = (viewV h).length ∧ OW (fun i => w.heap.size ≤ i) w' 3 1 A1 q cap (ints (viewV h)) ∧ Grow w w') := by
 have hz1 := hsize_cells h
 have hz2 := hsize_roots h
 refine enter Try.func41 rfl Try.ntmps41 (L := [_,_,_,_,_,_,_,_,_,_,_,_,_,_,_,_,_,_,_,_,_,_,_,_,_,_,_,_,_,_,_,_,_,_,_,_,_,_,_,_,_,_,_,_,_,_,_,_,_,_]) rfl ?_
 have G := Mod.refl No w
 have hA0 := hA
 have hB0 := hB
 refine wp_seq_k fun K1 hK1 => ?_
 refine Sb 50 rfl ?_
 refine S_box (cs := [_, _]) rfl rfl ?_
 intro b1 w1 fb1 g1 B1
 have lb1 := B1.lt
 replace hA := hA.grow g1
 replace hB := hB.grow g1
 replace G := G.grow g1
 have zg1 := g1.size
 refine Sas rfl ?_
 refine S_nl rfl rfl ?_
 refine th_n (hK1 _ _ ?_)
 clear hK1 K1
 refine wp_seq_k fun K2 hK2 => ?_
 refine wp_seq_k fun K3 hK3 => ?_
 refine Sb 50 rfl ?_
 refine S_val (Y_loadS U26 rfl sz26 rfl (B1.row (by rfl))) ?_
 refine S_call rfl en32 (impl_HeapValid_c _ _ _ _ _ _ _ (by assumption) (by assumption) (by omega)) ?_
 rintro v2 w2 ⟨rfl, g2⟩
 replace hA := hA.grow g2
 replace hB := hB.grow g2
 replace G := G.grow g2
 replace B1 := B1.grow g2
 have zg2 := g2.size
 refine S_val (Y_not rfl) ?_
 refine S_nl rfl rfl ?_
 refine th_n (hK3 _ _ ?_)
 clear hK3 K3
 refine S_if rfl (fun hb1 => ?_) (fun hb1 => ?_)
 ·
  first | with_reducible (replace hb1 := nb_nt hb1) | with_reducible (replace hb1 := nb_tt hb1) | with_reducible (replace hb1 := nb_bt hb1) | skip
  refine wp_seq_k fun K4 hK4 => ?_
  refine Sb 50 rfl ?_
  refine Sas rfl ?_
  refine S_nl rfl rfl ?_
  refine th_n (hK4 _ _ ?_)
  clear hK4 K4
  refine wp_ret ?_
  refine th_r ?_
  clear hK2 K2
  refine ret_r1 rfl rfl ?_
  exact ⟨_, _, _, rfl, by rw [viewV_f hb1]; rfl, by rw [viewV_f hb1]; exact OW.nil _ _ _ _, G⟩
 first | with_reducible (replace hb1 := nb_nf hb1) | with_reducible (replace hb1 := nb_tf hb1) | with_reducible (replace hb1 := nb_bf hb1) | skip
 have va := valid_iff.1 hb1
 have hl := va.leads
 have h40 := va.le
 have hr4 := va.roots4
 refine wp_skip ?_
 refine th_n (hK2 _ _ ?_)
 clear hK2 K2
 refine wp_seq_k fun K5 hK5 => ?_
 refine Sb 50 rfl ?_
 refine S_val (Y_loadS U26 rfl sz26 rfl (B1.row (by rfl))) ?_
 refine S_call rfl en47 (impl_metOrder_c _ _ _ _ _ _ _ (by assumption) (by assumption) (by omega) (by assumption) (by omega)) ?_
 rintro v3 w3 ⟨A3, q3, cap3, rfl, hq3, O3, g3⟩
 replace hA := hA.grow g3
 replace hB := hB.grow g3
 replace G := G.grow g3
 replace B1 := B1.grow g3
 have zg3 := g3.size
 subst hq3
 replace O3 := O3.lt
 have hbn : Bnd h.cells.length (orderL h.cells h.roots nn) := orderL_bnd hl
 have hol := hbn.len
 have hRo := O3.r1
 refine Sas rfl ?_
 refine S_nl rfl rfl ?_
 refine th_n (hK5 _ _ ?_)
 clear hK5 K5
 refine wp_seq_k fun K6 hK6 => ?_
 refine Sb 50 rfl ?_
 refine Smv rfl ?_
 refine S_val (Y_field U26 rfl fz26_0 (by decide) rfl) ?_
 refine S_val (Y_load U23 rfl rfl (B1.at (by rfl))) ?_
 refine S_val (Y_len U23 rfl) ?_
 refine S_call rfl en64 (impl_numbersIn_c _ _ _ _ _ _ hRo hbn (by omega)) ?_
 rintro v4 w4 ⟨b4, rfl, fb4, B4, g4⟩
 replace hA := hA.grow g4
 replace hB := hB.grow g4
 replace hRo := hRo.grow g4
 replace G := G.grow g4
 replace B1 := B1.grow g4
 have zg4 := g4.size
 have lb4 := B4.lt
 have hRn := R1.of_blkE B4
 refine Sas rfl ?_
 refine S_nl rfl rfl ?_
 refine th_n (hK6 _ _ ?_)
 clear hK6 K6
 refine wp_seq_k fun K7 hK7 => ?_
 refine Sb 50 rfl ?_
 refine S_val (Y_field U26 rfl fz26_1 (by decide) rfl) ?_
 refine S_val (Y_load U24 rfl rfl (B1.at (by rfl))) ?_
 refine Smv rfl ?_
 refine S_call rfl en65 (impl_renamed_c _ _ _ _ _ (orderL h.cells h.roots nn) _ _ _ _ hB hRn (by omega) (valid_roots va) (fun x hx => (hbn.2 x hx).1)) ?_
 rintro v5 w5 ⟨A5, q5, cap5, rfl, hq5, O5, g5⟩
 replace hA := hA.grow g5
 replace hB := hB.grow g5
 replace hRo := hRo.grow g5
 replace hRn := hRn.grow g5
 replace G := G.grow g5
 replace B1 := B1.grow g5
 replace B4 := B4.grow g5
 have zg5 := g5.size
 subst hq5
 have O1 := O5
 refine Sas rfl ?_
 refine S_nl rfl rfl ?_
 refine th_n (hK7 _ _ ?_)
 clear hK7 K7
 refine wp_seq_k fun K8 hK8 => ?_
 refine wp_seq_k fun K9 hK9 => ?_
 refine Sb 50 rfl ?_
 refine Smv rfl ?_
 refine S_val (Y_len U24 rfl) ?_
 refine Smv rfl ?_
 refine S_nl rfl rfl ?_
 refine th_n (hK9 _ _ ?_)
 clear hK9 K9
 refine wp_block ?_
 obtain ⟨wz, hwz⟩ : ∃ x, x = w.heap.size := ⟨_, rfl⟩
 go_loopw [5, 25] (fun u5 u25 wr => (∃ (k q cap : Nat) (A1 : Option Addr), u25 = .int .i64 k ∧ u5 = .slice A1 q cap ∧ k ≤ (orderL h.cells h.roots nn).length ∧ q = (viewK h.cells h.roots (orderL h.cells h.roots nn) k).length ∧ OW (fun i => w4.heap.size ≤ i) wr 3 1 A1 q cap (ints (viewK h.cells h.roots (orderL h.cells h.roots nn) k))) ∧ Mod (fun i => w4.heap.size ≤ i) w5 wr) (fun u5 u25 wr => (orderL h.cells h.roots nn).length - (intOf u25).toNat)
 case atStart =>
  refine ⟨?_, Mod.refl _ _⟩
  exact ⟨0, _, _, _, rfl, rfl, by omega, by rw [viewK_zero, List.length_map], by rw [viewK_zero]; exact O1⟩
 case round =>
  obtain ⟨w6, rfl⟩ : ∃ x : World, x = wr := ⟨_, rfl⟩
  obtain ⟨hrel, g6⟩ := hrel
  clear O1
  replace G := G.abv g6
  replace hA := hA0.grow G
  replace hB := hB0.grow G
  replace hRo := hRo.md g6
  replace hRn := hRn.md g6
  replace B1 := B1.md g6
  replace B4 := B4.md g6
  have zg6 := g6.size
  obtain ⟨k, q1, cap1, A1, rfl, rfl, hk, hq1, O1⟩ := hrel
  have hvl := viewK_len va hbn hk
  have GL6 := g6
  refine wp_seq_k fun K10 hK10 => ?_
  refine Sb 50 rfl ?_
  refine S_val (Y_lss rfl rfl) ?_
  refine S_nl rfl rfl ?_
  refine th_n (hK10 _ _ ?_)
  clear hK10 K10
  refine wp_seq_k fun K11 hK11 => ?_
  refine S_if rfl (fun hb2 => ?_) (fun hb2 => ?_)
  ·
   replace hb2 := nb_tt hb2
   have hk1 : k < (orderL h.cells h.roots nn).length := by omega
   obtain ⟨n, hn, hnN, hng⟩ := bnd_at hbn hk1
   obtain ⟨g4, o4, rfl, hp4, hc4⟩ := hRo.int hk1
   rw [hn] at hc4
   obtain ⟨g2, o2, E2, d2, rfl, hp2, cc20, hE20⟩ := hA0.cell hnN
   have cc2 := cc20.grow G
   have hE2 := hE20.grow G
   have hr3 := va.refs3 hnN
   have hvs := viewK_succ (roots := h.roots) hk1 hn hnN
   replace O1 := O1.lt
   refine wp_skip ?_
   refine th_n (hK11 _ _ ?_)
   clear hK11 K11
   refine wp_seq_k fun K12 hK12 => ?_
   refine wp_block ?_
   refine wp_seq_k fun K13 hK13 => ?_
   refine Sb 50 rfl ?_
   refine S_val (Y_index U24 sz3 rfl rfl (by first | assumption | omega)) ?_
   refine S_val (Y_load U3 rfl rfl (by first | assumption | exact cc2.at (by rfl) | exact B1.at (by rfl) | exact B4.at (by rfl))) ?_
   refine Sas rfl ?_
   refine S_nl rfl rfl ?_
   refine th_n (hK13 _ _ ?_)
   clear hK13 K13
   refine wp_seq_k fun K14 hK14 => ?_
   refine Sb 50 rfl ?_
   refine S_val (Y_field U26 rfl fz26_0 (by decide) rfl) ?_
   refine S_val (Y_load U23 rfl rfl (B1.at (by rfl))) ?_
   refine Smv rfl ?_
   refine S_val (Y_index U23 sz50 rfl rfl (by first | assumption | omega)) ?_
   refine S_val (Y_loadS U50 rfl sz50 rfl (by first | assumption | exact B1.row (by rfl) | exact B4.row (by rfl))) ?_
   refine S_alloc (cs := [_, _, _]) zr50 rfl ?_
   intro b7 w7 fb7 g7 B7
   have lb7 := B7.lt
   replace hA := hA.grow g7
   replace hB := hB.grow g7
   replace cc2 := cc2.grow g7
   replace hE2 := hE2.grow g7
   replace hRo := hRo.grow g7
   replace hRn := hRn.grow g7
   replace O1 := O1.grow g7
   replace G := G.grow g7
   replace GL6 := GL6.grow g7
   replace B1 := B1.grow g7
   replace B4 := B4.grow g7
   have zg7 := g7.size
   refine S_stM (pre := []) (old := [_, _, _]) (post := []) (vs := [_, _, _]) sz50 rfl rfl rfl (by first | rfl | assumption) B7 rfl rfl ?_
   intro w8 m8 X8
   replace B7 := Blk.eq (ys := [_, _, _]) X8 rfl
   clear X8
   replace G := G.abv m8
   first | replace GL6 := GL6.abv m8 | try clear GL6
   replace hA := hA0.grow G
   replace hB := hB0.grow G
   replace cc2 := cc20.grow G
   replace hE2 := hE20.grow G
   replace hRo := hRo.md m8
   replace hRn := hRn.md m8
   replace O1 := O1.md m8
   replace B1 := B1.md m8
   replace B4 := B4.md m8
   have zm8 := m8.size
   refine S_nl rfl rfl ?_
   refine th_n (hK14 _ _ ?_)
   clear hK14 K14
   refine wp_seq_k fun K15 hK15 => ?_
   refine Sb 50 rfl ?_
   refine Smv rfl ?_
   refine S_val (Y_field U50 rfl fz50_1 (by decide) rfl) ?_
   refine S_val (Y_load U3 rfl rfl (B7.at (by rfl))) ?_
   refine S_val (Y_field U50 rfl fz50_2 (by decide) rfl) ?_
   refine S_val (Y_load U24 rfl rfl (B7.at (by rfl))) ?_
   refine S_val (Y_len U24 rfl) ?_
   refine S_bsN (cs := [_, _]) U24 zr3 sz3 rfl rfl ?_
   intro b9 w9 fb9 g9 B9
   have lb9 := B9.lt
   replace hA := hA.grow g9
   replace hB := hB.grow g9
   replace cc2 := cc2.grow g9
   replace hE2 := hE2.grow g9
   replace hRo := hRo.grow g9
   replace hRn := hRn.grow g9
   replace O1 := O1.grow g9
   replace G := G.grow g9
   replace GL6 := GL6.grow g9
   replace B1 := B1.grow g9
   replace B4 := B4.grow g9
   replace B7 := B7.grow g9
   have zg9 := g9.size
   refine S_app U24 zr3 sz3 by3 rfl rfl O1 rfl (Src.blk B9) (by simp [Value.oneCell']) (by omega) (Pr' := fun i => w4.heap.size ≤ i ∧ i ≠ b7) (fun i hi => by omega) (by omega) ?_
   intro A10 cap10 w10 X10 m10
   replace O1 := X10
   replace O1 : OW (fun i => w4.heap.size ≤ i ∧ i ≠ b7) w10 3 1 A10 (q1 + 2) cap10 (ints (viewK h.cells h.roots (orderL h.cells h.roots nn) k ++ [h.cells[n].data, (h.cells[n].refs.length : Int)])) := by rw [← app2]; exact O1
   clear X10
   replace G := G.abv m10
   replace GL6 := GL6.trn m10
   replace hA := hA0.grow G
   replace hB := hB0.grow G
   replace cc2 := cc20.grow G
   replace hE2 := hE20.grow G
   replace hRo := hRo.md m10
   replace hRn := hRn.md m10
   replace B1 := B1.md m10
   replace B4 := B4.md m10
   replace B7 := B7.md m10
   have zm10 := m10.size
   refine Sas rfl ?_
   refine S_nl rfl rfl ?_
   refine th_n (hK15 _ _ ?_)
   clear hK15 K15
   refine Sb 50 rfl ?_
   refine Smv rfl ?_
   refine S_val (Y_field U50 rfl fz50_2 (by decide) rfl) ?_
   refine S_val (Y_load U24 rfl rfl (B7.at (by rfl))) ?_
   refine Smv rfl ?_
   refine S_call rfl en65 (impl_renamed_c _ _ _ _ _ (orderL h.cells h.roots nn) _ _ _ _ hE2 hRn (by omega) (valid_refs va hnN) (fun x hx => (hbn.2 x hx).1)) ?_
   rintro v11 w11 ⟨A11, q11, cap11, rfl, hq11, O11, g11⟩
   replace hA := hA.grow g11
   replace hB := hB.grow g11
   replace cc2 := cc2.grow g11
   replace hE2 := hE2.grow g11
   replace hRo := hRo.grow g11
   replace hRn := hRn.grow g11
   replace O1 := O1.grow g11
   replace G := G.grow g11
   replace GL6 := GL6.grow g11
   replace B1 := B1.grow g11
   replace B4 := B4.grow g11
   replace B7 := B7.grow g11
   have zg11 := g11.size
   subst hq11
   have hRs := O11.r1
   have hSs := Src.r1 hRs
   rw [ints_len, List.length_map] at hSs
   refine S_app U24 zr3 sz3 by3 rfl rfl O1 (by rw [ints_len, List.length_map]; omega) hSs ints_one (by omega) (Pr' := fun i => w4.heap.size ≤ i ∧ i ≠ b7) (fun i hi => by omega) (by omega) ?_
   intro A12 cap12 w12 X12 m12
   replace O1 := X12
   rw [ints_apps, ← hvs] at O1
   clear X12
   replace G := G.abv m12
   replace GL6 := GL6.trn m12
   replace hA := hA0.grow G
   replace hB := hB0.grow G
   replace cc2 := cc20.grow G
   replace hE2 := hE20.grow G
   replace hRo := hRo.md m12
   replace hRn := hRn.md m12
   replace B1 := B1.md m12
   replace B4 := B4.md m12
   replace B7 := B7.md m12
   have zm12 := m12.size
   refine Sas rfl ?_
   refine S_nl rfl rfl ?_
   refine ib_n ?_
   refine th_n (hK12 _ _ ?_)
   clear hK12 K12
   refine Sb 50 rfl ?_
   refine S_val (Y_inc rfl rfl (by omega)) ?_
   refine Smv rfl ?_
   refine S_nl rfl rfl ?_
   refine th_n ?_
   go_roundw
   case rel =>
    refine ⟨?_, GL6⟩
    exact ⟨k + 1, _, _, _, rfl, rfl, by omega, by rw [hvs, List.length_append, List.length_append, List.length_map]; simp; omega, O1.weak (fun i hi => hi.1)⟩
   case measure =>
    exact dec_nat (by omega)
  replace hb2 := nb_tf hb2
  refine wp_exit ?_
  refine th_x ?_
  try clear GL6
  refine th_x ?_
  refine ib_e ?_
  refine th_n (hK8 _ _ ?_)
  clear hK11 K11 hK8 K8
  refine wp_seq_k fun K16 hK16 => ?_
  refine Sb 50 rfl ?_
  refine Smv rfl ?_
  refine Sas rfl ?_
  refine S_nl rfl rfl ?_
  refine th_n (hK16 _ _ ?_)
  clear hK16 K16
  refine wp_ret ?_
  refine ret_r1 rfl rfl ?_
  rw [viewK_all (by omega)] at hq1 O1
  exact ⟨_, _, _, rfl, by rw [viewV_t hb1]; exact hq1, by rw [viewV_t hb1]; exact O1.weak (fun i hi => by omega), G⟩
set_option maxHeartbeats 400000 in
set_option maxRecDepth 20000 in
theorem impl_SameView_c (P1 P2 : Nat → Prop) (A B A2 B2 : Option Addr) (x y : LH) (c d c2 d2 : Nat) (w : World) (hA : RC P1 w A x.cells) (hB : R1 P1 w B (ints x.roots)) (hA2 : RC P2 w A2 y.cells) (hB2 : R1 P2 w B2 (ints y.roots)) (hz : hsize x ≤ 1048576) (hz2 : hsize y ≤ 1048576) :
    Calls Try.prog 13 #[.agg #[.slice A x.cells.length c, .slice B x.roots.length d], .agg #[.slice A2 y.cells.length c2, .slice B2 y.roots.length d2]] w (Ret fun v w' => v = .bool (sameV x y) ∧ Grow w w') := by
 have hvx := viewV_len x
 have hvy := viewV_len y
 refine enter Try.func13 rfl Try.ntmps13 (L := [_,_,_,_,_,_,_,_,_,_,_,_,_,_,_,_,_,_]) rfl ?_
 have G := Mod.refl No w
 have hA0 := hA
 have hB0 := hB
 have hA20 := hA2
 have hB20 := hB2
 refine wp_seq_k fun K1 hK1 => ?_
 refine Sb 18 rfl ?_
 refine S_box (cs := [_, _]) rfl rfl ?_
 intro b1 w1 fb1 g1 B1
 have lb1 := B1.lt
 replace hA := hA.grow g1
 replace hB := hB.grow g1
 replace hA2 := hA2.grow g1
 replace hB2 := hB2.grow g1
 replace G := G.grow g1
 have zg1 := g1.size
 refine S_box (cs := [_, _]) rfl rfl ?_
 intro b2 w2 fb2 g2 B2
 have lb2 := B2.lt
 replace hA := hA.grow g2
 replace hB := hB.grow g2
 replace hA2 := hA2.grow g2
 replace hB2 := hB2.grow g2
 replace G := G.grow g2
 replace B1 := B1.grow g2
 have zg2 := g2.size
 refine Sas rfl ?_
 refine S_nl rfl rfl ?_
 refine th_n (hK1 _ _ ?_)
 clear hK1 K1
 refine wp_seq_k fun K2 hK2 => ?_
 refine D_start 14 18 (fun w => Mod (No) w) follows rfl rfl ?_
 intro w3 g3
 replace hA := hA.grow g3
 replace hB := hB.grow g3
 replace hA2 := hA2.grow g3
 replace hB2 := hB2.grow g3
 replace G := G.grow g3
 replace B1 := B1.grow g3
 replace B2 := B2.grow g3
 have zg3 := g3.size
 have GS3 := Mod.refl (No) w3
 have B1d3 := B1
 have B2d3 := B2
 refine Dq (i := 0) rfl GS3 (fun _ hs => Y_loadS U26 rfl sz26 rfl (by first | exact hs.cells0 (B1.row (by rfl)))) ?_
 refine D_1 (i := 1) (by kernel_rfl) ?_
 refine E_call rfl rfl en32 (impl_HeapValid_c _ _ _ _ _ _ _ (by assumption) (by assumption) (by omega)) ?_
 rintro v4 w4 ⟨rfl, g4⟩
 replace hA := hA.grow g4
 replace hB := hB.grow g4
 replace hA2 := hA2.grow g4
 replace hB2 := hB2.grow g4
 replace G := G.grow g4
 replace GS3 := GS3.grow g4
 replace B1 := B1.grow g4
 replace B2 := B2.grow g4
 have zg4 := g4.size
 refine ⟨GS3, ?_⟩
 refine Dq (i := 2) rfl GS3 (fun _ _ => Y_move rfl) ?_
 refine D_g 7 rfl (fun hb1 => ?_) (fun hb1 => ?_)
 ·
  first | with_reducible (replace hb1 := nb_nt hb1) | with_reducible (replace hb1 := nb_tt hb1) | with_reducible (replace hb1 := nb_bt hb1) | skip
  refine Dqon (i := 3) rfl rfl rfl GS3 (fun _ hs => Y_loadS U26 rfl sz26 rfl (by first | exact hs.cells0 (B2.row (by rfl)) | exact hs.cells0 (B2d3.row (by rfl)))) ?_
  refine D_1 (i := 4) (by kernel_rfl) ?_
  refine E_calln rfl rfl rfl rfl en32 (impl_HeapValid_c _ _ _ _ _ _ _ (by assumption) (by assumption) (by omega)) ?_
  rintro v5 w5 ⟨rfl, g5⟩
  replace hA := hA.grow g5
  replace hB := hB.grow g5
  replace hA2 := hA2.grow g5
  replace hB2 := hB2.grow g5
  replace G := G.grow g5
  replace GS3 := GS3.grow g5
  replace B1 := B1.grow g5
  replace B2 := B2.grow g5
  have zg5 := g5.size
  refine ⟨GS3, ?_⟩
  refine Dq (i := 5) rfl GS3 (fun _ _ => Y_pickT rfl rfl) ?_
  refine Dq (i := 6) rfl GS3 (fun _ _ => Y_move rfl) ?_
  refine D_g 11 rfl (fun hb2 => ?_) (fun hb2 => ?_)
  ·
   first | with_reducible (replace hb2 := nb_nt hb2) | with_reducible (replace hb2 := nb_tt hb2) | with_reducible (replace hb2 := nb_bt hb2) | skip
   refine Dqon (i := 7) rfl rfl rfl GS3 (fun _ hs => Y_loadS U26 rfl sz26 rfl (by first | exact hs.cells0 (B1.row (by rfl)) | exact hs.cells0 (B1d3.row (by rfl)))) ?_
   refine Dqon (i := 9) rfl rfl rfl GS3 (fun _ hs => Y_loadS U26 rfl sz26 rfl (by first | exact hs.cells0 (B2.row (by rfl)) | exact hs.cells0 (B2d3.row (by rfl)))) ?_
   refine D_1 (i := 8) (by kernel_rfl) ?_
   refine E_calln rfl rfl rfl rfl en41 (impl_ViewOf_c _ _ _ _ _ _ _ (by assumption) (by assumption) (by omega)) ?_
   rintro v6 w6 ⟨A6, q6, cap6, rfl, hq6, O6, g6⟩
   replace hA := hA.grow g6
   replace hB := hB.grow g6
   replace hA2 := hA2.grow g6
   replace hB2 := hB2.grow g6
   replace G := G.grow g6
   replace GS3 := GS3.grow g6
   replace B1 := B1.grow g6
   replace B2 := B2.grow g6
   have zg6 := g6.size
   subst hq6
   replace O6 := O6.lt
   have hRx := O6.r1
   refine ⟨GS3, ?_⟩
   refine D_1 (i := 10) (by kernel_rfl) ?_
   refine E_calln rfl rfl rfl rfl en41 (impl_ViewOf_c _ _ _ _ _ _ _ (by assumption) (by assumption) (by omega)) ?_
   rintro v7 w7 ⟨A7, q7, cap7, rfl, hq7, O7, g7⟩
   replace hA := hA.grow g7
   replace hB := hB.grow g7
   replace hA2 := hA2.grow g7
   replace hB2 := hB2.grow g7
   replace hRx := hRx.grow g7
   replace G := G.grow g7
   replace GS3 := GS3.grow g7
   replace B1 := B1.grow g7
   replace B2 := B2.grow g7
   have zg7 := g7.size
   subst hq7
   replace O7 := O7.lt
   have hRy := O7.r1
   refine ⟨GS3, ?_⟩
   refine D_1 (i := 11) (by kernel_rfl) ?_
   refine E_calln rfl rfl rfl rfl en37 (impl_sameInts_c _ _ _ _ _ _ _ _ _ hRx hRy (by omega)) ?_
   rintro v8 w8 ⟨rfl, g8⟩
   replace hA := hA.grow g8
   replace hB := hB.grow g8
   replace hA2 := hA2.grow g8
   replace hB2 := hB2.grow g8
   replace hRx := hRx.grow g8
   replace hRy := hRy.grow g8
   replace G := G.grow g8
   replace GS3 := GS3.grow g8
   replace B1 := B1.grow g8
   replace B2 := B2.grow g8
   have zg8 := g8.size
   refine ⟨GS3, ?_⟩
   refine Dq (i := 12) rfl GS3 (fun _ _ => Y_pickT rfl rfl) ?_
   refine Dq (i := 13) rfl GS3 (fun _ _ => Y_assign rfl) ?_
   refine D_en (by kernel_rfl) rfl rfl ?_
   refine th_n (hK2 _ _ ?_)
   clear hK2 K2
   refine wp_ret ?_
   refine ret_r1 rfl rfl ?_
   exact ⟨by rw [sameV_t hb1 hb2], G⟩
  first | with_reducible (replace hb2 := nb_nf hb2) | with_reducible (replace hb2 := nb_tf hb2) | with_reducible (replace hb2 := nb_bf hb2) | skip
  refine Dqoff (i := 7) rfl rfl rfl GS3 ?_
  refine Dqoff (i := 8) rfl rfl rfl GS3 ?_
  refine Dqoff (i := 9) rfl rfl rfl GS3 ?_
  refine Dqoff (i := 10) rfl rfl rfl GS3 ?_
  refine Dqoff (i := 11) rfl rfl rfl GS3 ?_
  refine Dq (i := 12) rfl GS3 (fun _ _ => Y_pickF rfl rfl) ?_
  refine Dq (i := 13) rfl GS3 (fun _ _ => Y_assign rfl) ?_
  refine D_en (by kernel_rfl) rfl rfl ?_
  refine th_n (hK2 _ _ ?_)
  clear hK2 K2
  refine wp_ret ?_
  refine ret_r1 rfl rfl ?_
  exact ⟨by rw [sameV_f2 hb2], G⟩
 first | with_reducible (replace hb1 := nb_nf hb1) | with_reducible (replace hb1 := nb_tf hb1) | with_reducible (replace hb1 := nb_bf hb1) | skip
 refine Dqoff (i := 3) rfl rfl rfl GS3 ?_
 refine Dqoff (i := 4) rfl rfl rfl GS3 ?_
 refine Dq (i := 5) rfl GS3 (fun _ _ => Y_pickF rfl rfl) ?_
 refine Dq (i := 6) rfl GS3 (fun _ _ => Y_move rfl) ?_
 refine Dqoff (i := 7) rfl rfl rfl GS3 ?_
 refine Dqoff (i := 8) rfl rfl rfl GS3 ?_
 refine Dqoff (i := 9) rfl rfl rfl GS3 ?_
 refine Dqoff (i := 10) rfl rfl rfl GS3 ?_
 refine Dqoff (i := 11) rfl rfl rfl GS3 ?_
 refine Dq (i := 12) rfl GS3 (fun _ _ => Y_pickF rfl rfl) ?_
 refine Dq (i := 13) rfl GS3 (fun _ _ => Y_assign rfl) ?_
 refine D_en (by kernel_rfl) rfl rfl ?_
 refine th_n (hK2 _ _ ?_)
 clear hK2 K2
 refine wp_ret ?_
 refine ret_r1 rfl rfl ?_
 exact ⟨by rw [sameV_f1 hb1], G⟩
end
/-! WalkY -/
section
open Go Go.RowKit
attribute [local irreducible] wpList wpAnyH Code.wp dOp
set_option maxHeartbeats 400000 in
set_option maxRecDepth 20000 in
theorem impl_clone_int__c (Pr : Nat → Prop) (A : Option Addr) (xs : List Int) (c : Nat) (w : World) (hA : R1 Pr w A (ints xs)) (hx : xs.length ≤ 1048576) :
    Calls Try.prog 54 #[.slice A xs.length c] w (Ret fun v w' => ∃ A q cap, v = .slice A q cap ∧ q = xs.length ∧ OW (fun i => w.heap.size ≤ i) w' 3 1 A q cap (ints xs) ∧ Grow w w') := by
 refine enter Try.func54 rfl Try.ntmps54 (L := [_,_,_,_,_,_,_,_]) rfl ?_
 have G := Mod.refl No w
 have hA0 := hA
 refine wp_seq_k fun K1 hK1 => ?_
 refine Sb 8 rfl ?_
 refine Sas rfl ?_
 refine S_nl rfl rfl ?_
 refine th_n (hK1 _ _ ?_)
 clear hK1 K1
 refine wp_seq_k fun K2 hK2 => ?_
 refine Sb 8 rfl ?_
 refine Smv rfl ?_
 refine S_val (Y_len U24 rfl) ?_
 refine S_make (n := xs.length) (l := 0) (z := [.int .i64 0]) U24 zr3 sz3 by3 rfl rfl (by omega) (by omega) (by omega) ?_
 intro b1 w1 fb1 g1 B1
 have lb1 := B1.lt
 replace hA := hA.grow g1
 replace G := G.grow g1
 have zg1 := g1.size
 have O1 := OW.room (Pr := fun i => w.heap.size ≤ i) (s := 1) B1 rfl (by unfold maxLen; omega) (by omega)
 refine Smv rfl ?_
 refine S_app (news := ints xs) U24 zr3 sz3 by3 rfl rfl O1 (by rw [ints_len]; omega) (by have hsr := Src.r1 hA; rw [ints_len] at hsr; exact hsr) ints_one (by omega) (Pr' := fun i => w.heap.size ≤ i) (fun i hi => hi) (by omega) ?_
 intro A2 cap2 w2 X2 m2
 replace O1 := X2
 rw [List.nil_append] at O1
 clear X2
 replace G := G.abv m2
 replace hA := hA0.grow G
 have zm2 := m2.size
 refine Sas rfl ?_
 refine S_nl rfl rfl ?_
 refine th_n (hK2 _ _ ?_)
 clear hK2 K2
 refine wp_ret ?_
 refine ret_r1 rfl rfl ?_
 exact ⟨_, _, _, rfl, by omega, O1, G⟩
end
/-! WalkCp -/
section
open Go Go.RowKit
attribute [local irreducible] wpList wpAnyH Code.wp dOp
set_option maxHeartbeats 400000 in
set_option maxRecDepth 20000 in
theorem impl_copyHeap_c (Pr : Nat → Prop) (A B : Option Addr) (h : LH) (c d : Nat) (w : World) (hA : RC Pr w A h.cells) (hB : R1 Pr w B (ints h.roots)) (hz : hsize h ≤ 1048576) :
    Calls Try.prog 20 #[.agg #[.slice A h.cells.length c, .slice B h.roots.length d]] w (Ret fun v w' => ∃ A1 B1 n1 c1 n2 c2 rs, v = .agg #[.slice A1 n1 c1, .slice B1 n2 c2] ∧ n1 = (h).cells.length ∧ n2 = (h).roots.length ∧ OH (fun i => w.heap.size ≤ i) w' 50 3 A1 B1 (h) rs ∧ Grow w w') := by
 have hz1 := hsize_cells h
 have hz2 := hsize_roots h
 have hne : (50 : TypeId) ≠ 3 := by decide
 refine enter Try.func20 rfl Try.ntmps20 (L := [_,_,_,_,_,_,_,_,_,_,_,_,_,_,_,_,_,_,_,_,_,_,_,_,_,_,_,_,_,_,_,_,_,_,_,_,_]) rfl ?_
 have G := Mod.refl No w
 have hA0 := hA
 have hB0 := hB
 refine wp_seq_k fun K1 hK1 => ?_
 refine Sb 37 rfl ?_
 refine S_box (cs := [_, _]) rfl rfl ?_
 intro b1 w1 fb1 g1 B1
 have lb1 := B1.lt
 replace hA := hA.grow g1
 replace hB := hB.grow g1
 replace G := G.grow g1
 have zg1 := g1.size
 refine S_alloc (cs := [_, _]) zr26 rfl ?_
 intro b2 w2 fb2 g2 B2
 have lb2 := B2.lt
 replace hA := hA.grow g2
 replace hB := hB.grow g2
 replace G := G.grow g2
 replace B1 := B1.grow g2
 have zg2 := g2.size
 refine S_nl rfl rfl ?_
 refine th_n (hK1 _ _ ?_)
 clear hK1 K1
 refine wp_seq_k fun K2 hK2 => ?_
 refine D_cut (fun a' w' => ∃ (b3 bm capR : Nat) (AR : Option Addr) (L : List Value), a' = ⟨L.toArray, []⟩ ∧ L.length = 37 ∧ L[0]? = some (.agg #[.slice A h.cells.length c, .slice B h.roots.length d]) ∧ L[1]? = some (.pointer (some ⟨b1, 0, none⟩)) ∧ L[2]? = some (.pointer (some ⟨b2, 0, none⟩)) ∧ L[3]? = some (.pointer (some ⟨b3, 0, none⟩)) ∧ Mod (No) w2 w' ∧ (Blk w' b3 26 [.slice (some ⟨bm, 0, none⟩) 0 (h.cells.length + 1), .slice AR h.roots.length capR].toArray) ∧ (Blk w' bm 50 (zeros [.bool false, .int .i64 0, .slice none 0 0] (h.cells.length + 1)).toArray) ∧ (OW (fun i => w2.heap.size ≤ i ∧ i ≠ bm ∧ i ≠ b3 ∧ i < w'.heap.size) w' 3 1 AR h.roots.length capR (ints h.roots)) ∧ (w2.heap.size ≤ b3 ∧ w2.heap.size ≤ bm ∧ bm ≠ b3 ∧ bm < w'.heap.size)) ?_ ?_
 ·
  refine D_start 11 37 (fun w => Mod (No) w) follows rfl rfl ?_
  intro w3 g3
  replace hA := hA.grow g3
  replace hB := hB.grow g3
  replace G := G.grow g3
  replace B1 := B1.grow g3
  replace B2 := B2.grow g3
  have zg3 := g3.size
  have GS3 := Mod.refl (No) w3
  have B1d3 := B1
  refine Dq (i := 0) rfl GS3 (fun _ _ => Y_field U26 rfl fz26_0 (by decide) rfl) ?_
  refine Dq (i := 1) rfl GS3 (fun _ hs => Y_load U23 rfl rfl (hs.cell0 (B1.at (by rfl)))) ?_
  refine Dq (i := 2) rfl GS3 (fun _ _ => Y_len U23 rfl) ?_
  refine Dq (i := 3) rfl GS3 (fun _ _ => Y_add (c := ((h.cells.length + 1 : Nat) : Int)) rfl rfl rfl (by omega) (by omega)) ?_
  refine Dq (i := 5) rfl GS3 (fun _ _ => Y_field U26 rfl fz26_1 (by decide) rfl) ?_
  refine Dq (i := 6) rfl GS3 (fun _ hs => Y_load U24 rfl rfl (hs.cell0 (B1.at (by rfl)))) ?_
  refine D_3 (i := 4) (j := 7) (k := 9) (by kernel_rfl) ?_ ?_ ?_
  ·
   refine E_make (i := 4) (n := h.cells.length + 1) (l := 0) (z := [.bool false, .int .i64 0, .slice none 0 0]) rfl U23 zr50 sz50 by50 rfl rfl (by omega) (by omega) (by omega) ?_
   intro bm w5 fbm g5 BM
   have lbm := BM.lt
   refine ⟨GS3.grow g5, ?_⟩
   replace hA := hA.grow g5
   replace hB := hB.grow g5
   replace G := G.grow g5
   replace GS3 := GS3.grow g5
   replace B1 := B1.grow g5
   replace B2 := B2.grow g5
   have zg5 := g5.size
   refine D_2 (i := 7) (j := 9) (by kernel_rfl) ?_ ?_
   ·
    refine E_call rfl rfl en54 (impl_clone_int__c _ _ _ _ _ (by assumption) (by omega)) ?_
    rintro v6 w6 ⟨A6, q6, cap6, rfl, hq6, O6, g6⟩
    replace hA := hA.grow g6
    replace hB := hB.grow g6
    replace BM := BM.grow g6
    replace G := G.grow g6
    replace GS3 := GS3.grow g6
    replace B1 := B1.grow g6
    replace B2 := B2.grow g6
    have zg6 := g6.size
    subst hq6
    obtain ⟨AR, rfl⟩ : ∃ x, x = A6 := ⟨_, rfl⟩
    obtain ⟨capR, rfl⟩ : ∃ x, x = cap6 := ⟨_, rfl⟩
    have OX := O6.lt
    refine ⟨GS3, ?_⟩
    refine Dq (i := 8) rfl GS3 (fun _ _ => Y_build (cs := [_, _]) zr26 pc26 rfl rfl) ?_
    refine D_1 (i := 9) (by kernel_rfl) ?_
    refine E_alloc (cs := [_, _]) rfl zr26 rfl (fun b7 w7 fb7 g7 B7 => ⟨GS3.grow g7, ?_⟩)
    have lb7 := B7.lt
    replace hA := hA.grow g7
    replace hB := hB.grow g7
    replace BM := BM.grow g7
    replace OX := OX.grow g7
    replace G := G.grow g7
    replace GS3 := GS3.grow g7
    replace B1 := B1.grow g7
    replace B2 := B2.grow g7
    have zg7 := g7.size
    refine D_1 (i := 10) (by kernel_rfl) ?_
    refine E_stM (pre := []) (old := [_, _]) (post := []) (vs := [_, _]) (i := 10) rfl sz26 rfl rfl rfl (by first | rfl | assumption) B7 rfl rfl ?_
    intro w8 m8 X8
    replace B7 := Blk.eq (ys := [_, _]) X8 rfl
    clear X8
    replace G := G.abv m8
    replace GS3 := GS3.abv m8
    replace hA := hA0.grow G
    replace hB := hB0.grow G
    replace BM := BM.md m8
    replace OX := OX.md m8
    replace B1 := B1.md m8
    replace B2 := B2.md m8
    have zm8 := m8.size
    refine ⟨GS3, ?_⟩
    refine D_en (by kernel_rfl) rfl rfl ?_
    exact ⟨rfl, _, _, _, _, _, rfl, rfl, rfl, rfl, rfl, rfl, g3.grow GS3, B7, BM, OX.weak (fun i hi => by omega), ⟨by omega, by omega, by omega, by omega⟩⟩
   refine E_alloc (cs := [_, _]) rfl zr26 rfl (fun b9 w9 fb9 g9 B9 => ⟨GS3.grow g9, ?_⟩)
   have lb9 := B9.lt
   replace hA := hA.grow g9
   replace hB := hB.grow g9
   replace BM := BM.grow g9
   replace G := G.grow g9
   replace GS3 := GS3.grow g9
   replace B1 := B1.grow g9
   replace B2 := B2.grow g9
   have zg9 := g9.size
   refine D_1 (i := 7) (by kernel_rfl) ?_
   refine E_call rfl rfl en54 (impl_clone_int__c _ _ _ _ _ (by assumption) (by omega)) ?_
   rintro v10 w10 ⟨A10, q10, cap10, rfl, hq10, O10, g10⟩
   replace hA := hA.grow g10
   replace hB := hB.grow g10
   replace BM := BM.grow g10
   replace G := G.grow g10
   replace GS3 := GS3.grow g10
   replace B1 := B1.grow g10
   replace B2 := B2.grow g10
   replace B9 := B9.grow g10
   have zg10 := g10.size
   subst hq10
   obtain ⟨AR, rfl⟩ : ∃ x, x = A10 := ⟨_, rfl⟩
   obtain ⟨capR, rfl⟩ : ∃ x, x = cap10 := ⟨_, rfl⟩
   have OX := O10.lt
   refine ⟨GS3, ?_⟩
   refine Dq (i := 8) rfl GS3 (fun _ _ => Y_build (cs := [_, _]) zr26 pc26 rfl rfl) ?_
   refine D_1 (i := 10) (by kernel_rfl) ?_
   refine E_stM (pre := []) (old := [_, _]) (post := []) (vs := [_, _]) (i := 10) rfl sz26 rfl rfl rfl (by first | rfl | assumption) B9 rfl rfl ?_
   intro w11 m11 X11
   replace B9 := Blk.eq (ys := [_, _]) X11 rfl
   clear X11
   replace G := G.abv m11
   replace GS3 := GS3.abv m11
   replace hA := hA0.grow G
   replace hB := hB0.grow G
   replace BM := BM.md m11
   replace OX := OX.md m11
   replace B1 := B1.md m11
   replace B2 := B2.md m11
   have zm11 := m11.size
   refine ⟨GS3, ?_⟩
   refine D_en (by kernel_rfl) rfl rfl ?_
   exact ⟨rfl, _, _, _, _, _, rfl, rfl, rfl, rfl, rfl, rfl, g3.grow GS3, B9, BM, OX.weak (fun i hi => by omega), ⟨by omega, by omega, by omega, by omega⟩⟩
  ·
   refine E_call rfl rfl en54 (impl_clone_int__c _ _ _ _ _ (by assumption) (by omega)) ?_
   rintro v12 w12 ⟨A12, q12, cap12, rfl, hq12, O12, g12⟩
   replace hA := hA.grow g12
   replace hB := hB.grow g12
   replace G := G.grow g12
   replace GS3 := GS3.grow g12
   replace B1 := B1.grow g12
   replace B2 := B2.grow g12
   have zg12 := g12.size
   subst hq12
   obtain ⟨AR, rfl⟩ : ∃ x, x = A12 := ⟨_, rfl⟩
   obtain ⟨capR, rfl⟩ : ∃ x, x = cap12 := ⟨_, rfl⟩
   have OX := O12.lt
   refine ⟨GS3, ?_⟩
   refine D_2 (i := 4) (j := 9) (by kernel_rfl) ?_ ?_
   ·
    refine E_make (i := 4) (n := h.cells.length + 1) (l := 0) (z := [.bool false, .int .i64 0, .slice none 0 0]) rfl U23 zr50 sz50 by50 rfl rfl (by omega) (by omega) (by omega) ?_
    intro bm w13 fbm g13 BM
    have lbm := BM.lt
    refine ⟨GS3.grow g13, ?_⟩
    replace hA := hA.grow g13
    replace hB := hB.grow g13
    replace OX := OX.grow g13
    replace G := G.grow g13
    replace GS3 := GS3.grow g13
    replace B1 := B1.grow g13
    replace B2 := B2.grow g13
    have zg13 := g13.size
    refine Dq (i := 8) rfl GS3 (fun _ _ => Y_build (cs := [_, _]) zr26 pc26 rfl rfl) ?_
    refine D_1 (i := 9) (by kernel_rfl) ?_
    refine E_alloc (cs := [_, _]) rfl zr26 rfl (fun b14 w14 fb14 g14 B14 => ⟨GS3.grow g14, ?_⟩)
    have lb14 := B14.lt
    replace hA := hA.grow g14
    replace hB := hB.grow g14
    replace OX := OX.grow g14
    replace BM := BM.grow g14
    replace G := G.grow g14
    replace GS3 := GS3.grow g14
    replace B1 := B1.grow g14
    replace B2 := B2.grow g14
    have zg14 := g14.size
    refine D_1 (i := 10) (by kernel_rfl) ?_
    refine E_stM (pre := []) (old := [_, _]) (post := []) (vs := [_, _]) (i := 10) rfl sz26 rfl rfl rfl (by first | rfl | assumption) B14 rfl rfl ?_
    intro w15 m15 X15
    replace B14 := Blk.eq (ys := [_, _]) X15 rfl
    clear X15
    replace G := G.abv m15
    replace GS3 := GS3.abv m15
    replace hA := hA0.grow G
    replace hB := hB0.grow G
    replace OX := OX.md m15
    replace BM := BM.md m15
    replace B1 := B1.md m15
    replace B2 := B2.md m15
    have zm15 := m15.size
    refine ⟨GS3, ?_⟩
    refine D_en (by kernel_rfl) rfl rfl ?_
    exact ⟨rfl, _, _, _, _, _, rfl, rfl, rfl, rfl, rfl, rfl, g3.grow GS3, B14, BM, OX.weak (fun i hi => by omega), ⟨by omega, by omega, by omega, by omega⟩⟩
   refine E_alloc (cs := [_, _]) rfl zr26 rfl (fun b16 w16 fb16 g16 B16 => ⟨GS3.grow g16, ?_⟩)
   have lb16 := B16.lt
   replace hA := hA.grow g16
   replace hB := hB.grow g16
   replace OX := OX.grow g16
   replace G := G.grow g16
   replace GS3 := GS3.grow g16
   replace B1 := B1.grow g16
   replace B2 := B2.grow g16
   have zg16 := g16.size
   refine D_1 (i := 4) (by kernel_rfl) ?_
   refine E_make (i := 4) (n := h.cells.length + 1) (l := 0) (z := [.bool false, .int .i64 0, .slice none 0 0]) rfl U23 zr50 sz50 by50 rfl rfl (by omega) (by omega) (by omega) ?_
   intro bm w17 fbm g17 BM
   have lbm := BM.lt
   refine ⟨GS3.grow g17, ?_⟩
   replace hA := hA.grow g17
   replace hB := hB.grow g17
   replace OX := OX.grow g17
   replace G := G.grow g17
   replace GS3 := GS3.grow g17
   replace B1 := B1.grow g17
   replace B2 := B2.grow g17
   replace B16 := B16.grow g17
   have zg17 := g17.size
   refine Dq (i := 8) rfl GS3 (fun _ _ => Y_build (cs := [_, _]) zr26 pc26 rfl rfl) ?_
   refine D_1 (i := 10) (by kernel_rfl) ?_
   refine E_stM (pre := []) (old := [_, _]) (post := []) (vs := [_, _]) (i := 10) rfl sz26 rfl rfl rfl (by first | rfl | assumption) B16 rfl rfl ?_
   intro w18 m18 X18
   replace B16 := Blk.eq (ys := [_, _]) X18 rfl
   clear X18
   replace G := G.abv m18
   replace GS3 := GS3.abv m18
   replace hA := hA0.grow G
   replace hB := hB0.grow G
   replace OX := OX.md m18
   replace BM := BM.md m18
   replace B1 := B1.md m18
   replace B2 := B2.md m18
   have zm18 := m18.size
   refine ⟨GS3, ?_⟩
   refine D_en (by kernel_rfl) rfl rfl ?_
   exact ⟨rfl, _, _, _, _, _, rfl, rfl, rfl, rfl, rfl, rfl, g3.grow GS3, B16, BM, OX.weak (fun i hi => by omega), ⟨by omega, by omega, by omega, by omega⟩⟩
  refine E_alloc (cs := [_, _]) rfl zr26 rfl (fun b19 w19 fb19 g19 B19 => ⟨GS3.grow g19, ?_⟩)
  have lb19 := B19.lt
  replace hA := hA.grow g19
  replace hB := hB.grow g19
  replace G := G.grow g19
  replace GS3 := GS3.grow g19
  replace B1 := B1.grow g19
  replace B2 := B2.grow g19
  have zg19 := g19.size
  refine D_2 (i := 4) (j := 7) (by kernel_rfl) ?_ ?_
  ·
   refine E_make (i := 4) (n := h.cells.length + 1) (l := 0) (z := [.bool false, .int .i64 0, .slice none 0 0]) rfl U23 zr50 sz50 by50 rfl rfl (by omega) (by omega) (by omega) ?_
   intro bm w20 fbm g20 BM
   have lbm := BM.lt
   refine ⟨GS3.grow g20, ?_⟩
   replace hA := hA.grow g20
   replace hB := hB.grow g20
   replace G := G.grow g20
   replace GS3 := GS3.grow g20
   replace B1 := B1.grow g20
   replace B2 := B2.grow g20
   replace B19 := B19.grow g20
   have zg20 := g20.size
   refine D_1 (i := 7) (by kernel_rfl) ?_
   refine E_call rfl rfl en54 (impl_clone_int__c _ _ _ _ _ (by assumption) (by omega)) ?_
   rintro v21 w21 ⟨A21, q21, cap21, rfl, hq21, O21, g21⟩
   replace hA := hA.grow g21
   replace hB := hB.grow g21
   replace BM := BM.grow g21
   replace G := G.grow g21
   replace GS3 := GS3.grow g21
   replace B1 := B1.grow g21
   replace B2 := B2.grow g21
   replace B19 := B19.grow g21
   have zg21 := g21.size
   subst hq21
   obtain ⟨AR, rfl⟩ : ∃ x, x = A21 := ⟨_, rfl⟩
   obtain ⟨capR, rfl⟩ : ∃ x, x = cap21 := ⟨_, rfl⟩
   have OX := O21.lt
   refine ⟨GS3, ?_⟩
   refine Dq (i := 8) rfl GS3 (fun _ _ => Y_build (cs := [_, _]) zr26 pc26 rfl rfl) ?_
   refine D_1 (i := 10) (by kernel_rfl) ?_
   refine E_stM (pre := []) (old := [_, _]) (post := []) (vs := [_, _]) (i := 10) rfl sz26 rfl rfl rfl (by first | rfl | assumption) B19 rfl rfl ?_
   intro w22 m22 X22
   replace B19 := Blk.eq (ys := [_, _]) X22 rfl
   clear X22
   replace G := G.abv m22
   replace GS3 := GS3.abv m22
   replace hA := hA0.grow G
   replace hB := hB0.grow G
   replace BM := BM.md m22
   replace OX := OX.md m22
   replace B1 := B1.md m22
   replace B2 := B2.md m22
   have zm22 := m22.size
   refine ⟨GS3, ?_⟩
   refine D_en (by kernel_rfl) rfl rfl ?_
   exact ⟨rfl, _, _, _, _, _, rfl, rfl, rfl, rfl, rfl, rfl, g3.grow GS3, B19, BM, OX.weak (fun i hi => by omega), ⟨by omega, by omega, by omega, by omega⟩⟩
  refine E_call rfl rfl en54 (impl_clone_int__c _ _ _ _ _ (by assumption) (by omega)) ?_
  rintro v23 w23 ⟨A23, q23, cap23, rfl, hq23, O23, g23⟩
  replace hA := hA.grow g23
  replace hB := hB.grow g23
  replace G := G.grow g23
  replace GS3 := GS3.grow g23
  replace B1 := B1.grow g23
  replace B2 := B2.grow g23
  replace B19 := B19.grow g23
  have zg23 := g23.size
  subst hq23
  obtain ⟨AR, rfl⟩ : ∃ x, x = A23 := ⟨_, rfl⟩
  obtain ⟨capR, rfl⟩ : ∃ x, x = cap23 := ⟨_, rfl⟩
  have OX := O23.lt
  refine ⟨GS3, ?_⟩
  refine D_1 (i := 4) (by kernel_rfl) ?_
  refine E_make (i := 4) (n := h.cells.length + 1) (l := 0) (z := [.bool false, .int .i64 0, .slice none 0 0]) rfl U23 zr50 sz50 by50 rfl rfl (by omega) (by omega) (by omega) ?_
  intro bm w24 fbm g24 BM
  have lbm := BM.lt
  refine ⟨GS3.grow g24, ?_⟩
  replace hA := hA.grow g24
  replace hB := hB.grow g24
  replace OX := OX.grow g24
  replace G := G.grow g24
  replace GS3 := GS3.grow g24
  replace B1 := B1.grow g24
  replace B2 := B2.grow g24
  replace B19 := B19.grow g24
  have zg24 := g24.size
  refine Dq (i := 8) rfl GS3 (fun _ _ => Y_build (cs := [_, _]) zr26 pc26 rfl rfl) ?_
  refine D_1 (i := 10) (by kernel_rfl) ?_
  refine E_stM (pre := []) (old := [_, _]) (post := []) (vs := [_, _]) (i := 10) rfl sz26 rfl rfl rfl (by first | rfl | assumption) B19 rfl rfl ?_
  intro w25 m25 X25
  replace B19 := Blk.eq (ys := [_, _]) X25 rfl
  clear X25
  replace G := G.abv m25
  replace GS3 := GS3.abv m25
  replace hA := hA0.grow G
  replace hB := hB0.grow G
  replace OX := OX.md m25
  replace BM := BM.md m25
  replace B1 := B1.md m25
  replace B2 := B2.md m25
  have zm25 := m25.size
  refine ⟨GS3, ?_⟩
  refine D_en (by kernel_rfl) rfl rfl ?_
  exact ⟨rfl, _, _, _, _, _, rfl, rfl, rfl, rfl, rfl, rfl, g3.grow GS3, B19, BM, OX.weak (fun i hi => by omega), ⟨by omega, by omega, by omega, by omega⟩⟩
 rintro a' w4 ⟨b3, bm, capR, AR, L, rfl, hL, hs0, hs1, hs2, hs3, gJ4, B3, BM, OX, hb39⟩
 obtain ⟨x, rfl⟩ : ∃ x : Nat → Value, L = [(.agg #[.slice A h.cells.length c, .slice B h.roots.length d]), (.pointer (some ⟨b1, 0, none⟩)), (.pointer (some ⟨b2, 0, none⟩)), (.pointer (some ⟨b3, 0, none⟩)), x 4, x 5, x 6, x 7, x 8, x 9, x 10, x 11, x 12, x 13, x 14, x 15, x 16, x 17, x 18, x 19, x 20, x 21, x 22, x 23, x 24, x 25, x 26, x 27, x 28, x 29, x 30, x 31, x 32, x 33, x 34, x 35, x 36] := ⟨fun i => L.getD i undef, (slots_eta L 37 hL).trans (by show [L.getD 0 undef, L.getD 1 undef, L.getD 2 undef, L.getD 3 undef, L.getD 4 undef, L.getD 5 undef, L.getD 6 undef, L.getD 7 undef, L.getD 8 undef, L.getD 9 undef, L.getD 10 undef, L.getD 11 undef, L.getD 12 undef, L.getD 13 undef, L.getD 14 undef, L.getD 15 undef, L.getD 16 undef, L.getD 17 undef, L.getD 18 undef, L.getD 19 undef, L.getD 20 undef, L.getD 21 undef, L.getD 22 undef, L.getD 23 undef, L.getD 24 undef, L.getD 25 undef, L.getD 26 undef, L.getD 27 undef, L.getD 28 undef, L.getD 29 undef, L.getD 30 undef, L.getD 31 undef, L.getD 32 undef, L.getD 33 undef, L.getD 34 undef, L.getD 35 undef, L.getD 36 undef] = _; rw [slot_d hs0, slot_d hs1, slot_d hs2, slot_d hs3])⟩
 clear hL hs0 hs1 hs2 hs3
 replace hA := hA.grow gJ4
 replace hB := hB.grow gJ4
 replace G := G.grow gJ4
 replace B1 := B1.grow gJ4
 replace B2 := B2.grow gJ4
 have zgJ4 := gJ4.size
 have lb3 := B3.lt
 obtain ⟨p1, p2, p3, p4⟩ := hb39
 refine th_n (hK2 _ _ ?_)
 clear hK2 K2
 refine wp_seq_k fun K3 hK3 => ?_
 refine wp_seq_k fun K4 hK4 => ?_
 refine Sb 37 rfl ?_
 refine S_val (Y_field U26 rfl fz26_0 (by decide) rfl) ?_
 refine S_val (Y_load U23 rfl rfl (B1.at (by rfl))) ?_
 refine S_val (Y_len U23 rfl) ?_
 refine Smv rfl ?_
 refine S_nl rfl rfl ?_
 refine th_n (hK4 _ _ ?_)
 clear hK4 K4
 refine wp_block ?_
 obtain ⟨wz, hwz⟩ : ∃ x, x = w4.heap.size := ⟨_, rfl⟩
 have OC1 : OW (fun i => i = bm ∨ wz ≤ i) w4 50 3 (some ⟨bm, 0, none⟩) 0 (h.cells.length + 1) (flatC ([] : List LC) []) := OW.room BM rfl (by unfold maxLen; omega) (.inl rfl)
 have OR1 : ORs (fun i => wz ≤ i) w4 3 ([] : List LC) [] := ORs.nil _ _ _
 go_loopw [18] (fun u18 wr => (∃ (k q cap : Nat) (A1 : Option Addr) (rs : List (Option Addr × Nat)), u18 = .int .i64 k ∧ k ≤ h.cells.length ∧ q = k ∧ Blk wr b3 26 [.slice A1 q cap, .slice AR h.roots.length capR].toArray ∧ OW (fun i => i = bm ∨ wz ≤ i) wr 50 3 A1 q cap (flatC (h.cells.take k) rs) ∧ ORs (fun i => wz ≤ i) wr 3 (h.cells.take k) rs) ∧ Mod (fun i => i = b3 ∨ (i = bm ∨ wz ≤ i) ∨ wz ≤ i) w4 wr) (fun u18 wr => h.cells.length - (intOf u18).toNat)
 case atStart =>
  refine ⟨?_, Mod.refl _ _⟩
  exact ⟨0, 0, _, _, [], rfl, by omega, rfl, B3, OC1, OR1⟩
 case round =>
  obtain ⟨w26, rfl⟩ : ∃ x : World, x = wr := ⟨_, rfl⟩
  obtain ⟨hrel, g26⟩ := hrel
  clear B3
  clear OC1
  clear OR1
  replace G := G.abv g26
  replace hA := hA0.grow G
  replace hB := hB0.grow G
  replace OX := OX.md g26
  replace B1 := B1.md g26
  replace B2 := B2.md g26
  have zg26 := g26.size
  obtain ⟨k, q1, cap1, A1, rs, rfl, hk, hq1, B3, OC1, OR1⟩ := hrel
  have hlk : (h.cells.take k).length = k := by simp; omega
  have GL26 := g26
  refine wp_seq_k fun K5 hK5 => ?_
  refine Sb 37 rfl ?_
  refine S_val (Y_lss rfl rfl) ?_
  refine S_nl rfl rfl ?_
  refine th_n (hK5 _ _ ?_)
  clear hK5 K5
  refine wp_seq_k fun K6 hK6 => ?_
  refine S_if rfl (fun hb1 => ?_) (fun hb1 => ?_)
  ·
   replace hb1 := nb_tt hb1
   have hk1 : k < h.cells.length := by omega
   obtain ⟨g2, o2, E2, d2, rfl, hp2, cc20, hE20⟩ := hA0.cell hk1
   have cc2 := cc20.grow G
   have hE2 := hE20.grow G
   have hr1 := hsize_refs h hk1
   replace OC1 := OC1.lt
   replace OR1 := OR1.lt
   refine wp_skip ?_
   refine th_n (hK6 _ _ ?_)
   clear hK6 K6
   refine wp_seq_k fun K7 hK7 => ?_
   refine wp_block ?_
   refine wp_seq_k fun K8 hK8 => ?_
   refine Sb 37 rfl ?_
   refine S_val (Y_index U23 sz50 rfl rfl (by first | assumption | omega)) ?_
   refine S_val (Y_loadS U50 rfl sz50 rfl (by first | assumption | exact B1.row (by rfl) | exact B2.row (by rfl) | exact B3.row (by rfl))) ?_
   refine S_alloc (cs := [_, _, _]) zr50 rfl ?_
   intro b27 w27 fb27 g27 B27
   have lb27 := B27.lt
   replace hA := hA.grow g27
   replace hB := hB.grow g27
   replace cc2 := cc2.grow g27
   replace hE2 := hE2.grow g27
   replace OX := OX.grow g27
   replace OC1 := OC1.grow g27
   replace OR1 := OR1.grow g27
   replace G := G.grow g27
   replace GL26 := GL26.grow g27
   replace B1 := B1.grow g27
   replace B2 := B2.grow g27
   replace B3 := B3.grow g27
   have zg27 := g27.size
   refine S_stM (pre := []) (old := [_, _, _]) (post := []) (vs := [_, _, _]) sz50 rfl rfl rfl (by first | rfl | assumption) B27 rfl rfl ?_
   intro w28 m28 X28
   replace B27 := Blk.eq (ys := [_, _, _]) X28 rfl
   clear X28
   replace G := G.abv m28
   first | replace GL26 := GL26.abv m28 | try clear GL26
   replace hA := hA0.grow G
   replace hB := hB0.grow G
   replace cc2 := cc20.grow G
   replace hE2 := hE20.grow G
   replace OX := OX.md m28
   replace OC1 := OC1.md m28
   replace OR1 := OR1.md m28
   replace B1 := B1.md m28
   replace B2 := B2.md m28
   replace B3 := B3.md m28
   have zm28 := m28.size
   refine S_nl rfl rfl ?_
   refine th_n (hK8 _ _ ?_)
   clear hK8 K8
   refine D_start 14 37 (fun w => Mod (fun i => i = b3 ∨ ((i = bm ∨ wz ≤ i) ∧ i ≠ b27)) w) follows rfl rfl ?_
   intro w29 g29
   replace hA := hA.grow g29
   replace hB := hB.grow g29
   replace cc2 := cc2.grow g29
   replace hE2 := hE2.grow g29
   replace OX := OX.grow g29
   replace OC1 := OC1.grow g29
   replace OR1 := OR1.grow g29
   replace G := G.grow g29
   replace GL26 := GL26.grow g29
   replace B1 := B1.grow g29
   replace B2 := B2.grow g29
   replace B3 := B3.grow g29
   replace B27 := B27.grow g29
   have zg29 := g29.size
   have GS29 := Mod.refl (fun i => i = b3 ∨ ((i = bm ∨ wz ≤ i) ∧ i ≠ b27)) w29
   refine Dq (i := 0) rfl GS29 (fun _ _ => Y_field U26 rfl fz26_0 (by decide) rfl) ?_
   refine Dq (i := 2) rfl GS29 (fun _ _ => Y_field U50 rfl fz50_0 (by decide) rfl) ?_
   refine Dq (i := 3) rfl GS29 (fun _ hs => Y_load U4 rfl rfl (by first | exact hs.cel (B27.at (by rfl)))) ?_
   refine Dq (i := 4) rfl GS29 (fun _ _ => Y_field U50 rfl fz50_1 (by decide) rfl) ?_
   refine Dq (i := 5) rfl GS29 (fun _ hs => Y_load U3 rfl rfl (by first | exact hs.cel (B27.at (by rfl)))) ?_
   refine Dq (i := 6) rfl GS29 (fun _ _ => Y_field U50 rfl fz50_2 (by decide) rfl) ?_
   refine Dq (i := 7) rfl GS29 (fun _ hs => Y_load U24 rfl rfl (by first | exact hs.cel (B27.at (by rfl)))) ?_
   refine D_2 (i := 1) (j := 8) (by kernel_rfl) ?_ ?_
   ·
    refine E_val (i := 1) rfl (Y_load U23 rfl rfl (B3.at (by rfl))) GS29 ?_
    refine D_1 (i := 8) (by kernel_rfl) ?_
    refine E_call rfl rfl en54 (impl_clone_int__c _ _ _ _ _ hE2 (by omega)) ?_
    rintro v31 w31 ⟨A31, q31, cap31, rfl, hq31, O31, g31⟩
    replace hA := hA.grow g31
    replace hB := hB.grow g31
    replace cc2 := cc2.grow g31
    replace hE2 := hE2.grow g31
    replace OX := OX.grow g31
    replace OC1 := OC1.grow g31
    replace OR1 := OR1.grow g31
    replace G := G.grow g31
    replace GL26 := GL26.grow g31
    replace GS29 := GS29.grow g31
    replace B1 := B1.grow g31
    replace B2 := B2.grow g31
    replace B3 := B3.grow g31
    replace B27 := B27.grow g31
    have zg31 := g31.size
    subst hq31
    obtain ⟨AY, rfl⟩ : ∃ x, x = A31 := ⟨_, rfl⟩
    obtain ⟨capY, rfl⟩ : ∃ x, x = cap31 := ⟨_, rfl⟩
    have OY := O31
    refine ⟨GS29, ?_⟩
    refine Dq (i := 9) rfl GS29 (fun _ _ => Y_build (cs := [_, _, _]) zr50 pc50 rfl rfl) ?_
    refine D_1 (i := 10) (by kernel_rfl) ?_
    refine E_bs1 (cs := [_, _, _]) (i := 10) rfl U23 zr50 sz50 rfl rfl rfl ?_
    intro b32 w32 fb32 g32 B32
    refine ⟨GS29.grow g32, ?_⟩
    have lb32 := B32.lt
    replace hA := hA.grow g32
    replace hB := hB.grow g32
    replace cc2 := cc2.grow g32
    replace hE2 := hE2.grow g32
    replace OX := OX.grow g32
    replace OC1 := OC1.grow g32
    replace OR1 := OR1.grow g32
    replace OY := OY.grow g32
    replace G := G.grow g32
    replace GL26 := GL26.grow g32
    replace GS29 := GS29.grow g32
    replace B1 := B1.grow g32
    replace B2 := B2.grow g32
    replace B3 := B3.grow g32
    replace B27 := B27.grow g32
    have zg32 := g32.size
    refine D_1 (i := 11) (by kernel_rfl) ?_
    refine E_app2 (i := 11) rfl U23 zr50 sz50 by50 rfl rfl OC1 rfl (Src.blk B32) (by simp [Value.oneCell']) (by omega) (Pr' := fun i => (i = bm ∨ wz ≤ i) ∧ i ≠ b27) (fun i hi => by omega) (by omega) ?_
    intro A33 cap33 w33 X33 m33 n33
    replace OR1 := OR1.app OC1 hne n33
    replace OC1 := X33
    clear X33 n33
    replace G := G.abv m33
    replace GL26 := GL26.trn m33
    replace GS29 := GS29.trn m33
    replace hA := hA0.grow G
    replace hB := hB0.grow G
    replace cc2 := cc20.grow G
    replace hE2 := hE20.grow G
    replace OX := OX.md m33
    replace OY := OY.md m33
    replace B1 := B1.md m33
    replace B2 := B2.md m33
    replace B3 := B3.md m33
    replace B27 := B27.md m33
    have zm33 := m33.size
    refine ⟨GS29, ?_⟩
    have OR2 := OR1.more (c := h.cells[k]) OY (fun i hi => by omega) (Pr' := fun i => wz ≤ i) (fun i hi => by omega) (fun i hi => by omega)
    replace OC1 : OW (fun i => (i = bm ∨ wz ≤ i) ∧ i ≠ b27) w33 50 3 A33 (q1 + 1) cap33 (flatC (h.cells.take (k + 1)) (rs ++ [(AY, capY)])) := by rw [List.take_succ_eq_append_getElem hk1, ← flat_more OR1.len]; exact OC1
    rw [← List.take_succ_eq_append_getElem hk1] at OR2
    refine Dq (i := 12) rfl GS29 (fun _ _ => Y_field U26 rfl fz26_0 (by decide) rfl) ?_
    refine D_1 (i := 13) (by kernel_rfl) ?_
    refine E_stM (pre := []) (old := [_]) (post := [_]) (vs := [_]) (i := 13) rfl sz23 rfl rfl rfl (by first | rfl | assumption) B3 rfl rfl ?_
    intro w34 m34 X34
    replace B3 := Blk.eq (ys := [_, _]) X34 rfl
    clear X34
    replace G := G.abv m34
    replace GL26 := GL26.trn m34
    replace GS29 := GS29.trn m34
    replace hA := hA0.grow G
    replace hB := hB0.grow G
    replace cc2 := cc20.grow G
    replace hE2 := hE20.grow G
    replace OX := OX.md m34
    replace OC1 := OC1.md m34
    replace OR2 := OR2.md m34
    replace B1 := B1.md m34
    replace B2 := B2.md m34
    replace B27 := B27.md m34
    have zm34 := m34.size
    refine ⟨GS29, ?_⟩
    refine D_en (by kernel_rfl) rfl rfl ?_
    refine ib_n ?_
    refine th_n (hK7 _ _ ?_)
    clear hK7 K7
    refine Sb 37 rfl ?_
    refine S_val (Y_inc rfl rfl (by omega)) ?_
    refine Smv rfl ?_
    refine S_nl rfl rfl ?_
    refine th_n ?_
    go_roundw
    case rel =>
     refine ⟨?_, GL26⟩
     exact ⟨k + 1, _, _, _, _, rfl, by omega, by omega, B3, OC1.weak (fun i hi => hi.1), OR2⟩
    case measure =>
     exact dec_nat (by omega)
   refine E_call rfl rfl en54 (impl_clone_int__c _ _ _ _ _ hE2 (by omega)) ?_
   rintro v35 w35 ⟨A35, q35, cap35, rfl, hq35, O35, g35⟩
   replace hA := hA.grow g35
   replace hB := hB.grow g35
   replace cc2 := cc2.grow g35
   replace hE2 := hE2.grow g35
   replace OX := OX.grow g35
   replace OC1 := OC1.grow g35
   replace OR1 := OR1.grow g35
   replace G := G.grow g35
   replace GL26 := GL26.grow g35
   replace GS29 := GS29.grow g35
   replace B1 := B1.grow g35
   replace B2 := B2.grow g35
   replace B3 := B3.grow g35
   replace B27 := B27.grow g35
   have zg35 := g35.size
   subst hq35
   obtain ⟨AY, rfl⟩ : ∃ x, x = A35 := ⟨_, rfl⟩
   obtain ⟨capY, rfl⟩ : ∃ x, x = cap35 := ⟨_, rfl⟩
   have OY := O35
   refine ⟨GS29, ?_⟩
   refine Dq (i := 9) rfl GS29 (fun _ _ => Y_build (cs := [_, _, _]) zr50 pc50 rfl rfl) ?_
   refine D_2 (i := 1) (j := 10) (by kernel_rfl) ?_ ?_
   ·
    refine E_val (i := 1) rfl (Y_load U23 rfl rfl (B3.at (by rfl))) GS29 ?_
    refine D_1 (i := 10) (by kernel_rfl) ?_
    refine E_bs1 (cs := [_, _, _]) (i := 10) rfl U23 zr50 sz50 rfl rfl rfl ?_
    intro b37 w37 fb37 g37 B37
    refine ⟨GS29.grow g37, ?_⟩
    have lb37 := B37.lt
    replace hA := hA.grow g37
    replace hB := hB.grow g37
    replace cc2 := cc2.grow g37
    replace hE2 := hE2.grow g37
    replace OX := OX.grow g37
    replace OC1 := OC1.grow g37
    replace OR1 := OR1.grow g37
    replace OY := OY.grow g37
    replace G := G.grow g37
    replace GL26 := GL26.grow g37
    replace GS29 := GS29.grow g37
    replace B1 := B1.grow g37
    replace B2 := B2.grow g37
    replace B3 := B3.grow g37
    replace B27 := B27.grow g37
    have zg37 := g37.size
    refine D_1 (i := 11) (by kernel_rfl) ?_
    refine E_app2 (i := 11) rfl U23 zr50 sz50 by50 rfl rfl OC1 rfl (Src.blk B37) (by simp [Value.oneCell']) (by omega) (Pr' := fun i => (i = bm ∨ wz ≤ i) ∧ i ≠ b27) (fun i hi => by omega) (by omega) ?_
    intro A38 cap38 w38 X38 m38 n38
    replace OR1 := OR1.app OC1 hne n38
    replace OC1 := X38
    clear X38 n38
    replace G := G.abv m38
    replace GL26 := GL26.trn m38
    replace GS29 := GS29.trn m38
    replace hA := hA0.grow G
    replace hB := hB0.grow G
    replace cc2 := cc20.grow G
    replace hE2 := hE20.grow G
    replace OX := OX.md m38
    replace OY := OY.md m38
    replace B1 := B1.md m38
    replace B2 := B2.md m38
    replace B3 := B3.md m38
    replace B27 := B27.md m38
    have zm38 := m38.size
    refine ⟨GS29, ?_⟩
    have OR2 := OR1.more (c := h.cells[k]) OY (fun i hi => by omega) (Pr' := fun i => wz ≤ i) (fun i hi => by omega) (fun i hi => by omega)
    replace OC1 : OW (fun i => (i = bm ∨ wz ≤ i) ∧ i ≠ b27) w38 50 3 A38 (q1 + 1) cap38 (flatC (h.cells.take (k + 1)) (rs ++ [(AY, capY)])) := by rw [List.take_succ_eq_append_getElem hk1, ← flat_more OR1.len]; exact OC1
    rw [← List.take_succ_eq_append_getElem hk1] at OR2
    refine Dq (i := 12) rfl GS29 (fun _ _ => Y_field U26 rfl fz26_0 (by decide) rfl) ?_
    refine D_1 (i := 13) (by kernel_rfl) ?_
    refine E_stM (pre := []) (old := [_]) (post := [_]) (vs := [_]) (i := 13) rfl sz23 rfl rfl rfl (by first | rfl | assumption) B3 rfl rfl ?_
    intro w39 m39 X39
    replace B3 := Blk.eq (ys := [_, _]) X39 rfl
    clear X39
    replace G := G.abv m39
    replace GL26 := GL26.trn m39
    replace GS29 := GS29.trn m39
    replace hA := hA0.grow G
    replace hB := hB0.grow G
    replace cc2 := cc20.grow G
    replace hE2 := hE20.grow G
    replace OX := OX.md m39
    replace OC1 := OC1.md m39
    replace OR2 := OR2.md m39
    replace B1 := B1.md m39
    replace B2 := B2.md m39
    replace B27 := B27.md m39
    have zm39 := m39.size
    refine ⟨GS29, ?_⟩
    refine D_en (by kernel_rfl) rfl rfl ?_
    refine ib_n ?_
    refine th_n (hK7 _ _ ?_)
    clear hK7 K7
    refine Sb 37 rfl ?_
    refine S_val (Y_inc rfl rfl (by omega)) ?_
    refine Smv rfl ?_
    refine S_nl rfl rfl ?_
    refine th_n ?_
    go_roundw
    case rel =>
     refine ⟨?_, GL26⟩
     exact ⟨k + 1, _, _, _, _, rfl, by omega, by omega, B3, OC1.weak (fun i hi => hi.1), OR2⟩
    case measure =>
     exact dec_nat (by omega)
   refine E_bs1 (cs := [_, _, _]) (i := 10) rfl U23 zr50 sz50 rfl rfl rfl ?_
   intro b40 w40 fb40 g40 B40
   refine ⟨GS29.grow g40, ?_⟩
   have lb40 := B40.lt
   replace hA := hA.grow g40
   replace hB := hB.grow g40
   replace cc2 := cc2.grow g40
   replace hE2 := hE2.grow g40
   replace OX := OX.grow g40
   replace OC1 := OC1.grow g40
   replace OR1 := OR1.grow g40
   replace OY := OY.grow g40
   replace G := G.grow g40
   replace GL26 := GL26.grow g40
   replace GS29 := GS29.grow g40
   replace B1 := B1.grow g40
   replace B2 := B2.grow g40
   replace B3 := B3.grow g40
   replace B27 := B27.grow g40
   have zg40 := g40.size
   refine D_1 (i := 1) (by kernel_rfl) ?_
   refine E_val (i := 1) rfl (Y_load U23 rfl rfl (B3.at (by rfl))) GS29 ?_
   refine D_1 (i := 11) (by kernel_rfl) ?_
   refine E_app2 (i := 11) rfl U23 zr50 sz50 by50 rfl rfl OC1 rfl (Src.blk B40) (by simp [Value.oneCell']) (by omega) (Pr' := fun i => (i = bm ∨ wz ≤ i) ∧ i ≠ b27) (fun i hi => by omega) (by omega) ?_
   intro A42 cap42 w42 X42 m42 n42
   replace OR1 := OR1.app OC1 hne n42
   replace OC1 := X42
   clear X42 n42
   replace G := G.abv m42
   replace GL26 := GL26.trn m42
   replace GS29 := GS29.trn m42
   replace hA := hA0.grow G
   replace hB := hB0.grow G
   replace cc2 := cc20.grow G
   replace hE2 := hE20.grow G
   replace OX := OX.md m42
   replace OY := OY.md m42
   replace B1 := B1.md m42
   replace B2 := B2.md m42
   replace B3 := B3.md m42
   replace B27 := B27.md m42
   have zm42 := m42.size
   refine ⟨GS29, ?_⟩
   have OR2 := OR1.more (c := h.cells[k]) OY (fun i hi => by omega) (Pr' := fun i => wz ≤ i) (fun i hi => by omega) (fun i hi => by omega)
   replace OC1 : OW (fun i => (i = bm ∨ wz ≤ i) ∧ i ≠ b27) w42 50 3 A42 (q1 + 1) cap42 (flatC (h.cells.take (k + 1)) (rs ++ [(AY, capY)])) := by rw [List.take_succ_eq_append_getElem hk1, ← flat_more OR1.len]; exact OC1
   rw [← List.take_succ_eq_append_getElem hk1] at OR2
   refine Dq (i := 12) rfl GS29 (fun _ _ => Y_field U26 rfl fz26_0 (by decide) rfl) ?_
   refine D_1 (i := 13) (by kernel_rfl) ?_
   refine E_stM (pre := []) (old := [_]) (post := [_]) (vs := [_]) (i := 13) rfl sz23 rfl rfl rfl (by first | rfl | assumption) B3 rfl rfl ?_
   intro w43 m43 X43
   replace B3 := Blk.eq (ys := [_, _]) X43 rfl
   clear X43
   replace G := G.abv m43
   replace GL26 := GL26.trn m43
   replace GS29 := GS29.trn m43
   replace hA := hA0.grow G
   replace hB := hB0.grow G
   replace cc2 := cc20.grow G
   replace hE2 := hE20.grow G
   replace OX := OX.md m43
   replace OC1 := OC1.md m43
   replace OR2 := OR2.md m43
   replace B1 := B1.md m43
   replace B2 := B2.md m43
   replace B27 := B27.md m43
   have zm43 := m43.size
   refine ⟨GS29, ?_⟩
   refine D_en (by kernel_rfl) rfl rfl ?_
   refine ib_n ?_
   refine th_n (hK7 _ _ ?_)
   clear hK7 K7
   refine Sb 37 rfl ?_
   refine S_val (Y_inc rfl rfl (by omega)) ?_
   refine Smv rfl ?_
   refine S_nl rfl rfl ?_
   refine th_n ?_
   go_roundw
   case rel =>
    refine ⟨?_, GL26⟩
    exact ⟨k + 1, _, _, _, _, rfl, by omega, by omega, B3, OC1.weak (fun i hi => hi.1), OR2⟩
   case measure =>
    exact dec_nat (by omega)
  replace hb1 := nb_tf hb1
  refine wp_exit ?_
  refine th_x ?_
  try clear GL26
  refine th_x ?_
  refine ib_e ?_
  refine th_n (hK3 _ _ ?_)
  clear hK6 K6 hK3 K3
  refine wp_seq_k fun K9 hK9 => ?_
  refine Sb 37 rfl ?_
  refine S_val (Y_loadS U26 rfl sz26 rfl (B3.row (by rfl))) ?_
  refine S_stM (pre := []) (old := [_, _]) (post := []) (vs := [_, _]) sz26 rfl rfl rfl (by first | rfl | assumption) B2 rfl rfl ?_
  intro w44 m44 X44
  replace B2 := Blk.eq (ys := [_, _]) X44 rfl
  clear X44
  replace G := G.abv m44
  replace hA := hA0.grow G
  replace hB := hB0.grow G
  replace OX := OX.md m44
  replace OC1 := OC1.md m44
  replace OR1 := OR1.md m44
  replace B1 := B1.md m44
  replace B3 := B3.md m44
  have zm44 := m44.size
  refine S_nl rfl rfl ?_
  refine th_n (hK9 _ _ ?_)
  clear hK9 K9
  refine wp_ret ?_
  refine ret_rc (cs := [_, _]) U26 rfl sz26 rfl rfl (B2.row (by rfl)) ?_
  rw [List.take_of_length_le (by omega)] at hlk OC1 OR1
  rw [hq1, ← hlk] at OC1
  exact ⟨_, _, _, _, _, _, rs, rfl, by omega, rfl, OH.of_parts (h := h) (OC.grown OC1 OR1 (fun _ h => h) (fun _ h => .inr h)) OX.oi (fun k b h1 h2 h3 => by omega) (fun k hk => by omega) (fun k hk => by omega), G⟩
set_option maxHeartbeats 400000 in
set_option maxRecDepth 20000 in
theorem spec_l7Copy_c (Pr : Nat → Prop) (A B : Option Addr) (h : LH) (c d : Nat) (w : World) (hA : RC Pr w A h.cells) (hB : R1 Pr w B (ints h.roots)) (hz : hsize h ≤ 1048576) :
    Calls Try.prog 25 #[.agg #[.slice A h.cells.length c, .slice B h.roots.length d]] w (Ret fun v w' => ∃ A1 B1 n1 c1 n2 c2 rs, v = .agg #[.slice A1 n1 c1, .slice B1 n2 c2] ∧ n1 = (h).cells.length ∧ n2 = (h).roots.length ∧ OH (fun i => w.heap.size ≤ i) w' 50 3 A1 B1 (h) rs ∧ Grow w w') := by
 have hz1 := hsize_cells h
 have hz2 := hsize_roots h
 have hne : (50 : TypeId) ≠ 3 := by decide
 have hAl := hA.below
 have hBl := hB.below
 refine enter Try.func25 rfl Try.ntmps25 (L := [_,_,_,_,_,_,_,_,_,_,_,_,_,_,_,_,_,_,_,_,_,_,_,_,_,_,_,_,_,_,_,_,_,_,_,_,_,_,_,_,_,_,_,_]) rfl ?_
 have G := Mod.refl No w
 have hAl0 := hAl
 have hBl0 := hBl
 refine wp_seq_k fun K1 hK1 => ?_
 refine Sb 44 rfl ?_
 refine S_box (cs := [_, _]) rfl rfl ?_
 intro b1 w1 fb1 g1 B1
 have lb1 := B1.lt
 replace hAl := hAl.grow g1
 replace hBl := hBl.grow g1
 replace G := G.grow g1
 have zg1 := g1.size
 refine S_alloc (cs := [_, _]) zr26 rfl ?_
 intro b2 w2 fb2 g2 B2
 have lb2 := B2.lt
 replace hAl := hAl.grow g2
 replace hBl := hBl.grow g2
 replace G := G.grow g2
 replace B1 := B1.grow g2
 have zg2 := g2.size
 refine S_nl rfl rfl ?_
 refine th_n (hK1 _ _ ?_)
 clear hK1 K1
 refine wp_seq_k fun K2 hK2 => ?_
 refine Sb 44 rfl ?_
 refine S_bs0 U24 sz3 ?_
 intro b3 w3 fb3 g3 B3
 have lb3 := B3.lt
 replace hAl := hAl.grow g3
 replace hBl := hBl.grow g3
 replace G := G.grow g3
 replace B1 := B1.grow g3
 replace B2 := B2.grow g3
 have zg3 := g3.size
 refine S_val (Y_field U26 rfl fz26_1 (by decide) rfl) ?_
 refine S_val (Y_load U24 rfl rfl (B1.at (by rfl))) ?_
 have OY : OW (fun i => b2 < i) w3 3 1 (some ⟨b3, 0, none⟩) 0 0 [] := OW.of_blk B3 rfl (by decide) (by omega)
 refine S_app0 (news := ints h.roots) U24 zr3 sz3 by3 rfl rfl OY (by rw [ints_len]; omega) (by have hsr := Src.r1 hBl; rw [ints_len] at hsr; exact hsr) ints_one (by omega) (Pr' := fun i => b2 < i) (fun i hi => hi) (by omega) ?_
 intro A4 cap4 w4 X4 m4
 replace OY := X4
 clear X4
 replace G := G.abv m4
 replace hAl := hAl0.grow G
 replace hBl := hBl0.grow G
 replace B1 := B1.md m4
 replace B2 := B2.md m4
 have zm4 := m4.size
 have OX := OY.lt
 obtain ⟨AR, rfl⟩ : ∃ x, x = A4 := ⟨_, rfl⟩
 obtain ⟨capR, rfl⟩ : ∃ x, x = cap4 := ⟨_, rfl⟩
 clear OY
 refine S_val (Y_build (cs := [_, _]) zr26 pc26 rfl rfl) ?_
 refine S_alloc (cs := [_, _]) zr26 rfl ?_
 intro b5 w5 fb5 g5 B5
 have lb5 := B5.lt
 replace hAl := hAl.grow g5
 replace hBl := hBl.grow g5
 replace OX := OX.grow g5
 replace G := G.grow g5
 replace B1 := B1.grow g5
 replace B2 := B2.grow g5
 have zg5 := g5.size
 refine S_stM (pre := []) (old := [_, _]) (post := []) (vs := [_, _]) sz26 rfl rfl rfl (by first | rfl | assumption) B5 rfl rfl ?_
 intro w6 m6 X6
 replace B5 := Blk.eq (ys := [_, _]) X6 rfl
 clear X6
 replace G := G.abv m6
 replace hAl := hAl0.grow G
 replace hBl := hBl0.grow G
 replace OX := OX.md m6
 replace B1 := B1.md m6
 replace B2 := B2.md m6
 have zm6 := m6.size
 refine S_nl rfl rfl ?_
 refine th_n (hK2 _ _ ?_)
 clear hK2 K2
 refine wp_seq_k fun K3 hK3 => ?_
 refine wp_seq_k fun K4 hK4 => ?_
 refine Sb 44 rfl ?_
 refine Sas rfl ?_
 refine S_nl rfl rfl ?_
 refine th_n (hK4 _ _ ?_)
 clear hK4 K4
 refine wp_block ?_
 obtain ⟨wz, hwz⟩ : ∃ x, x = w6.heap.size := ⟨_, rfl⟩
 have OC1 : OW (fun i => wz ≤ i) w6 50 3 none 0 0 (flatC ([] : List LC) []) := OW.nil _ _ _ _
 have OR1 : ORs (fun i => wz ≤ i) w6 3 ([] : List LC) [] := ORs.nil _ _ _
 go_loopw [4] (fun u4 wr => (∃ (k q cap : Nat) (A1 : Option Addr) (rs : List (Option Addr × Nat)), u4 = .int .i64 k ∧ k ≤ h.cells.length ∧ q = k ∧ Blk wr b5 26 [.slice A1 q cap, .slice AR h.roots.length capR].toArray ∧ OW (fun i => wz ≤ i) wr 50 3 A1 q cap (flatC (h.cells.take k) rs) ∧ ORs (fun i => wz ≤ i) wr 3 (h.cells.take k) rs) ∧ Mod (fun i => i = b5 ∨ (wz ≤ i) ∨ wz ≤ i) w6 wr) (fun u4 wr => h.cells.length - (intOf u4).toNat)
 case atStart =>
  refine ⟨?_, Mod.refl _ _⟩
  exact ⟨0, 0, _, _, [], rfl, by omega, rfl, B5, OC1, OR1⟩
 case round =>
  obtain ⟨w7, rfl⟩ : ∃ x : World, x = wr := ⟨_, rfl⟩
  obtain ⟨hrel, g7⟩ := hrel
  clear B5
  clear OC1
  clear OR1
  replace G := G.abv g7
  replace hAl := hAl0.grow G
  replace hBl := hBl0.grow G
  replace OX := OX.md g7
  replace B1 := B1.md g7
  replace B2 := B2.md g7
  have zg7 := g7.size
  obtain ⟨k, q1, cap1, A1, rs, rfl, hk, hq1, B5, OC1, OR1⟩ := hrel
  have hlk : (h.cells.take k).length = k := by simp; omega
  have GL7 := g7
  refine wp_seq_k fun K5 hK5 => ?_
  refine wp_seq_k fun K6 hK6 => ?_
  refine Sb 44 rfl ?_
  refine Smv rfl ?_
  refine S_val (Y_field U26 rfl fz26_0 (by decide) rfl) ?_
  refine S_val (Y_load U23 rfl rfl (B1.at (by rfl))) ?_
  refine S_val (Y_len U23 rfl) ?_
  refine S_val (Y_lss rfl rfl) ?_
  refine S_nl rfl rfl ?_
  refine th_n (hK6 _ _ ?_)
  clear hK6 K6
  refine S_if rfl (fun hb1 => ?_) (fun hb1 => ?_)
  ·
   replace hb1 := nb_tt hb1
   have hk1 : k < h.cells.length := by omega
   obtain ⟨g2, o2, E2, d2, rfl, hp2, cc20, hE20⟩ := hAl0.cell hk1
   have cc2 := cc20.grow G
   have hE2 := hE20.grow G
   have hr1 := hsize_refs h hk1
   replace OC1 := OC1.lt
   replace OR1 := OR1.lt
   refine wp_skip ?_
   refine th_n (hK5 _ _ ?_)
   clear hK5 K5
   refine wp_seq_k fun K7 hK7 => ?_
   refine wp_block ?_
   refine D_start 27 44 (fun w => Mod (fun i => i = b5 ∨ wz ≤ i) w) follows rfl rfl ?_
   intro w8 g8
   replace hAl := hAl.grow g8
   replace hBl := hBl.grow g8
   replace cc2 := cc2.grow g8
   replace hE2 := hE2.grow g8
   replace OX := OX.grow g8
   replace OC1 := OC1.grow g8
   replace OR1 := OR1.grow g8
   replace G := G.grow g8
   replace GL7 := GL7.grow g8
   replace B1 := B1.grow g8
   replace B2 := B2.grow g8
   replace B5 := B5.grow g8
   have zg8 := g8.size
   have GS8 := Mod.refl (fun i => i = b5 ∨ wz ≤ i) w8
   refine Dq (i := 0) rfl GS8 (fun _ _ => Y_field U26 rfl fz26_0 (by decide) rfl) ?_
   refine Dq (i := 2) rfl GS8 (fun _ _ => Y_field U26 rfl fz26_0 (by decide) rfl) ?_
   refine Dq (i := 3) rfl GS8 (fun _ hs => Y_load U23 rfl rfl (by first | exact hs.cel (B1.at (by rfl)))) ?_
   refine Dq (i := 4) rfl GS8 (fun _ _ => Y_move rfl) ?_
   refine Dq (i := 5) rfl GS8 (fun _ _ => Y_index U23 sz50 rfl rfl (by first | assumption | omega)) ?_
   refine Dq (i := 6) rfl GS8 (fun _ _ => Y_field U50 rfl fz50_0 (by decide) rfl) ?_
   refine Dq (i := 7) rfl GS8 (fun _ hs => Y_load U4 rfl rfl (by first | exact hs.cel (by assumption) | exact hs.cel (cc2.at (by rfl)) | exact hs.cel (B1.at (by rfl)) | exact hs.cel (B2.at (by rfl)) | exact hs.cel (B5.at (by rfl)))) ?_
   refine Dq (i := 8) rfl GS8 (fun _ _ => Y_field U26 rfl fz26_0 (by decide) rfl) ?_
   refine Dq (i := 9) rfl GS8 (fun _ hs => Y_load U23 rfl rfl (by first | exact hs.cel (B1.at (by rfl)))) ?_
   refine Dq (i := 10) rfl GS8 (fun _ _ => Y_move rfl) ?_
   refine Dq (i := 11) rfl GS8 (fun _ _ => Y_index U23 sz50 rfl rfl (by first | assumption | omega)) ?_
   refine Dq (i := 12) rfl GS8 (fun _ _ => Y_field U50 rfl fz50_1 (by decide) rfl) ?_
   refine Dq (i := 13) rfl GS8 (fun _ hs => Y_load U3 rfl rfl (by first | exact hs.cel (by assumption) | exact hs.cel (cc2.at (by rfl)) | exact hs.cel (B1.at (by rfl)) | exact hs.cel (B2.at (by rfl)) | exact hs.cel (B5.at (by rfl)))) ?_
   refine Dq (i := 15) rfl GS8 (fun _ _ => Y_field U26 rfl fz26_0 (by decide) rfl) ?_
   refine Dq (i := 16) rfl GS8 (fun _ hs => Y_load U23 rfl rfl (by first | exact hs.cel (B1.at (by rfl)))) ?_
   refine Dq (i := 17) rfl GS8 (fun _ _ => Y_move rfl) ?_
   refine Dq (i := 18) rfl GS8 (fun _ _ => Y_index U23 sz50 rfl rfl (by first | assumption | omega)) ?_
   refine Dq (i := 19) rfl GS8 (fun _ _ => Y_field U50 rfl fz50_2 (by decide) rfl) ?_
   refine Dq (i := 20) rfl GS8 (fun _ hs => Y_load U24 rfl rfl (by first | exact hs.cel (by assumption) | exact hs.cel (cc2.at (by rfl)) | exact hs.cel (B1.at (by rfl)) | exact hs.cel (B2.at (by rfl)) | exact hs.cel (B5.at (by rfl)))) ?_
   refine D_2 (i := 1) (j := 14) (by kernel_rfl) ?_ ?_
   ·
    refine E_val (i := 1) rfl (Y_load U23 rfl rfl (B5.at (by rfl))) GS8 ?_
    refine D_1 (i := 14) (by kernel_rfl) ?_
    refine E_bs0 (i := 14) rfl U24 sz3 ?_
    intro b10 w10 fb10 g10 B10
    refine ⟨GS8.grow g10, ?_⟩
    have lb10 := B10.lt
    replace hAl := hAl.grow g10
    replace hBl := hBl.grow g10
    replace cc2 := cc2.grow g10
    replace hE2 := hE2.grow g10
    replace OX := OX.grow g10
    replace OC1 := OC1.grow g10
    replace OR1 := OR1.grow g10
    replace G := G.grow g10
    replace GL7 := GL7.grow g10
    replace GS8 := GS8.grow g10
    replace B1 := B1.grow g10
    replace B2 := B2.grow g10
    replace B5 := B5.grow g10
    have zg10 := g10.size
    refine D_1 (i := 21) (by kernel_rfl) ?_
    have OY : OW (fun i => b10 ≤ i) w10 3 1 (some ⟨b10, 0, none⟩) 0 0 [] := OW.of_blk B10 rfl (by decide) (Nat.le_refl _)
    refine E_app0 (i := 21) rfl (news := ints h.cells[k].refs) U24 zr3 sz3 by3 rfl rfl OY (by rw [ints_len]; omega) (by have hsr := Src.r1 hE2; rw [ints_len] at hsr; exact hsr) ints_one (by omega) (Pr' := fun i => b10 ≤ i) (fun i hi => hi) (by omega) ?_
    intro A11 cap11 w11 X11 m11
    replace OY := X11
    clear X11
    replace G := G.abv m11
    first | replace GL7 := GL7.abv m11 | try clear GL7
    replace GS8 := GS8.abv m11
    replace hAl := hAl0.grow G
    replace hBl := hBl0.grow G
    replace cc2 := cc20.grow G
    replace hE2 := hE20.grow G
    replace OX := OX.md m11
    replace OC1 := OC1.md m11
    replace OR1 := OR1.md m11
    replace B1 := B1.md m11
    replace B2 := B2.md m11
    replace B5 := B5.md m11
    have zm11 := m11.size
    refine ⟨GS8, ?_⟩
    obtain ⟨AY, rfl⟩ : ∃ x, x = A11 := ⟨_, rfl⟩
    obtain ⟨capY, rfl⟩ : ∃ x, x = cap11 := ⟨_, rfl⟩
    refine Dq (i := 22) rfl GS8 (fun _ _ => Y_build (cs := [_, _, _]) zr50 pc50 rfl rfl) ?_
    refine D_1 (i := 23) (by kernel_rfl) ?_
    refine E_bs1 (cs := [_, _, _]) (i := 23) rfl U23 zr50 sz50 rfl rfl rfl ?_
    intro b12 w12 fb12 g12 B12
    refine ⟨GS8.grow g12, ?_⟩
    have lb12 := B12.lt
    replace hAl := hAl.grow g12
    replace hBl := hBl.grow g12
    replace cc2 := cc2.grow g12
    replace hE2 := hE2.grow g12
    replace OX := OX.grow g12
    replace OC1 := OC1.grow g12
    replace OR1 := OR1.grow g12
    replace OY := OY.grow g12
    replace G := G.grow g12
    replace GL7 := GL7.grow g12
    replace GS8 := GS8.grow g12
    replace B1 := B1.grow g12
    replace B2 := B2.grow g12
    replace B5 := B5.grow g12
    have zg12 := g12.size
    refine D_1 (i := 24) (by kernel_rfl) ?_
    refine E_app2 (i := 24) rfl U23 zr50 sz50 by50 rfl rfl OC1 rfl (Src.blk B12) (by simp [Value.oneCell']) (by omega) (Pr' := fun i => (wz ≤ i)) (fun i hi => by omega) (by omega) ?_
    intro A13 cap13 w13 X13 m13 n13
    replace OR1 := OR1.app OC1 hne n13
    replace OC1 := X13
    clear X13 n13
    replace G := G.abv m13
    replace GL7 := GL7.trn m13
    replace GS8 := GS8.trn m13
    replace hAl := hAl0.grow G
    replace hBl := hBl0.grow G
    replace cc2 := cc20.grow G
    replace hE2 := hE20.grow G
    replace OX := OX.md m13
    replace OY := OY.md m13
    replace B1 := B1.md m13
    replace B2 := B2.md m13
    replace B5 := B5.md m13
    have zm13 := m13.size
    refine ⟨GS8, ?_⟩
    have OR2 := OR1.more (c := h.cells[k]) OY (fun i hi => by omega) (Pr' := fun i => wz ≤ i) (fun i hi => by omega) (fun i hi => by omega)
    replace OC1 : OW (fun i => (wz ≤ i)) w13 50 3 A13 (q1 + 1) cap13 (flatC (h.cells.take (k + 1)) (rs ++ [(AY, capY)])) := by rw [List.take_succ_eq_append_getElem hk1, ← flat_more OR1.len]; exact OC1
    rw [← List.take_succ_eq_append_getElem hk1] at OR2
    refine Dq (i := 25) rfl GS8 (fun _ _ => Y_field U26 rfl fz26_0 (by decide) rfl) ?_
    refine D_1 (i := 26) (by kernel_rfl) ?_
    refine E_stM (pre := []) (old := [_]) (post := [_]) (vs := [_]) (i := 26) rfl sz23 rfl rfl rfl (by first | rfl | assumption) B5 rfl rfl ?_
    intro w14 m14 X14
    replace B5 := Blk.eq (ys := [_, _]) X14 rfl
    clear X14
    replace G := G.abv m14
    replace GL7 := GL7.trn m14
    replace GS8 := GS8.trn m14
    replace hAl := hAl0.grow G
    replace hBl := hBl0.grow G
    replace cc2 := cc20.grow G
    replace hE2 := hE20.grow G
    replace OX := OX.md m14
    replace OC1 := OC1.md m14
    replace OR2 := OR2.md m14
    replace B1 := B1.md m14
    replace B2 := B2.md m14
    have zm14 := m14.size
    refine ⟨GS8, ?_⟩
    refine D_en (by kernel_rfl) rfl rfl ?_
    refine ib_n ?_
    refine th_n (hK7 _ _ ?_)
    clear hK7 K7
    refine Sb 44 rfl ?_
    refine Smv rfl ?_
    refine S_val (Y_inc rfl rfl (by omega)) ?_
    refine Sas rfl ?_
    refine S_nl rfl rfl ?_
    refine th_n ?_
    go_roundw
    case rel =>
     refine ⟨?_, GL7⟩
     exact ⟨k + 1, _, _, _, _, rfl, by omega, by omega, B5, OC1, OR2⟩
    case measure =>
     exact dec_nat (by omega)
   refine E_bs0 (i := 14) rfl U24 sz3 ?_
   intro b15 w15 fb15 g15 B15
   refine ⟨GS8.grow g15, ?_⟩
   have lb15 := B15.lt
   replace hAl := hAl.grow g15
   replace hBl := hBl.grow g15
   replace cc2 := cc2.grow g15
   replace hE2 := hE2.grow g15
   replace OX := OX.grow g15
   replace OC1 := OC1.grow g15
   replace OR1 := OR1.grow g15
   replace G := G.grow g15
   replace GL7 := GL7.grow g15
   replace GS8 := GS8.grow g15
   replace B1 := B1.grow g15
   replace B2 := B2.grow g15
   replace B5 := B5.grow g15
   have zg15 := g15.size
   refine D_2 (i := 1) (j := 21) (by kernel_rfl) ?_ ?_
   ·
    refine E_val (i := 1) rfl (Y_load U23 rfl rfl (B5.at (by rfl))) GS8 ?_
    refine D_1 (i := 21) (by kernel_rfl) ?_
    have OY : OW (fun i => b15 ≤ i) w15 3 1 (some ⟨b15, 0, none⟩) 0 0 [] := OW.of_blk B15 rfl (by decide) (Nat.le_refl _)
    refine E_app0 (i := 21) rfl (news := ints h.cells[k].refs) U24 zr3 sz3 by3 rfl rfl OY (by rw [ints_len]; omega) (by have hsr := Src.r1 hE2; rw [ints_len] at hsr; exact hsr) ints_one (by omega) (Pr' := fun i => b15 ≤ i) (fun i hi => hi) (by omega) ?_
    intro A17 cap17 w17 X17 m17
    replace OY := X17
    clear X17
    replace G := G.abv m17
    first | replace GL7 := GL7.abv m17 | try clear GL7
    replace GS8 := GS8.abv m17
    replace hAl := hAl0.grow G
    replace hBl := hBl0.grow G
    replace cc2 := cc20.grow G
    replace hE2 := hE20.grow G
    replace OX := OX.md m17
    replace OC1 := OC1.md m17
    replace OR1 := OR1.md m17
    replace B1 := B1.md m17
    replace B2 := B2.md m17
    replace B5 := B5.md m17
    have zm17 := m17.size
    refine ⟨GS8, ?_⟩
    obtain ⟨AY, rfl⟩ : ∃ x, x = A17 := ⟨_, rfl⟩
    obtain ⟨capY, rfl⟩ : ∃ x, x = cap17 := ⟨_, rfl⟩
    refine Dq (i := 22) rfl GS8 (fun _ _ => Y_build (cs := [_, _, _]) zr50 pc50 rfl rfl) ?_
    refine D_1 (i := 23) (by kernel_rfl) ?_
    refine E_bs1 (cs := [_, _, _]) (i := 23) rfl U23 zr50 sz50 rfl rfl rfl ?_
    intro b18 w18 fb18 g18 B18
    refine ⟨GS8.grow g18, ?_⟩
    have lb18 := B18.lt
    replace hAl := hAl.grow g18
    replace hBl := hBl.grow g18
    replace cc2 := cc2.grow g18
    replace hE2 := hE2.grow g18
    replace OX := OX.grow g18
    replace OC1 := OC1.grow g18
    replace OR1 := OR1.grow g18
    replace OY := OY.grow g18
    replace G := G.grow g18
    replace GL7 := GL7.grow g18
    replace GS8 := GS8.grow g18
    replace B1 := B1.grow g18
    replace B2 := B2.grow g18
    replace B5 := B5.grow g18
    have zg18 := g18.size
    refine D_1 (i := 24) (by kernel_rfl) ?_
    refine E_app2 (i := 24) rfl U23 zr50 sz50 by50 rfl rfl OC1 rfl (Src.blk B18) (by simp [Value.oneCell']) (by omega) (Pr' := fun i => (wz ≤ i)) (fun i hi => by omega) (by omega) ?_
    intro A19 cap19 w19 X19 m19 n19
    replace OR1 := OR1.app OC1 hne n19
    replace OC1 := X19
    clear X19 n19
    replace G := G.abv m19
    replace GL7 := GL7.trn m19
    replace GS8 := GS8.trn m19
    replace hAl := hAl0.grow G
    replace hBl := hBl0.grow G
    replace cc2 := cc20.grow G
    replace hE2 := hE20.grow G
    replace OX := OX.md m19
    replace OY := OY.md m19
    replace B1 := B1.md m19
    replace B2 := B2.md m19
    replace B5 := B5.md m19
    have zm19 := m19.size
    refine ⟨GS8, ?_⟩
    have OR2 := OR1.more (c := h.cells[k]) OY (fun i hi => by omega) (Pr' := fun i => wz ≤ i) (fun i hi => by omega) (fun i hi => by omega)
    replace OC1 : OW (fun i => (wz ≤ i)) w19 50 3 A19 (q1 + 1) cap19 (flatC (h.cells.take (k + 1)) (rs ++ [(AY, capY)])) := by rw [List.take_succ_eq_append_getElem hk1, ← flat_more OR1.len]; exact OC1
    rw [← List.take_succ_eq_append_getElem hk1] at OR2
    refine Dq (i := 25) rfl GS8 (fun _ _ => Y_field U26 rfl fz26_0 (by decide) rfl) ?_
    refine D_1 (i := 26) (by kernel_rfl) ?_
    refine E_stM (pre := []) (old := [_]) (post := [_]) (vs := [_]) (i := 26) rfl sz23 rfl rfl rfl (by first | rfl | assumption) B5 rfl rfl ?_
    intro w20 m20 X20
    replace B5 := Blk.eq (ys := [_, _]) X20 rfl
    clear X20
    replace G := G.abv m20
    replace GL7 := GL7.trn m20
    replace GS8 := GS8.trn m20
    replace hAl := hAl0.grow G
    replace hBl := hBl0.grow G
    replace cc2 := cc20.grow G
    replace hE2 := hE20.grow G
    replace OX := OX.md m20
    replace OC1 := OC1.md m20
    replace OR2 := OR2.md m20
    replace B1 := B1.md m20
    replace B2 := B2.md m20
    have zm20 := m20.size
    refine ⟨GS8, ?_⟩
    refine D_en (by kernel_rfl) rfl rfl ?_
    refine ib_n ?_
    refine th_n (hK7 _ _ ?_)
    clear hK7 K7
    refine Sb 44 rfl ?_
    refine Smv rfl ?_
    refine S_val (Y_inc rfl rfl (by omega)) ?_
    refine Sas rfl ?_
    refine S_nl rfl rfl ?_
    refine th_n ?_
    go_roundw
    case rel =>
     refine ⟨?_, GL7⟩
     exact ⟨k + 1, _, _, _, _, rfl, by omega, by omega, B5, OC1, OR2⟩
    case measure =>
     exact dec_nat (by omega)
   have OY : OW (fun i => b15 ≤ i) w15 3 1 (some ⟨b15, 0, none⟩) 0 0 [] := OW.of_blk B15 rfl (by decide) (Nat.le_refl _)
   refine E_app0 (i := 21) rfl (news := ints h.cells[k].refs) U24 zr3 sz3 by3 rfl rfl OY (by rw [ints_len]; omega) (by have hsr := Src.r1 hE2; rw [ints_len] at hsr; exact hsr) ints_one (by omega) (Pr' := fun i => b15 ≤ i) (fun i hi => hi) (by omega) ?_
   intro A21 cap21 w21 X21 m21
   replace OY := X21
   clear X21
   replace G := G.abv m21
   first | replace GL7 := GL7.abv m21 | try clear GL7
   replace GS8 := GS8.abv m21
   replace hAl := hAl0.grow G
   replace hBl := hBl0.grow G
   replace cc2 := cc20.grow G
   replace hE2 := hE20.grow G
   replace OX := OX.md m21
   replace OC1 := OC1.md m21
   replace OR1 := OR1.md m21
   replace B1 := B1.md m21
   replace B2 := B2.md m21
   replace B5 := B5.md m21
   have zm21 := m21.size
   refine ⟨GS8, ?_⟩
   obtain ⟨AY, rfl⟩ : ∃ x, x = A21 := ⟨_, rfl⟩
   obtain ⟨capY, rfl⟩ : ∃ x, x = cap21 := ⟨_, rfl⟩
   refine Dq (i := 22) rfl GS8 (fun _ _ => Y_build (cs := [_, _, _]) zr50 pc50 rfl rfl) ?_
   refine D_2 (i := 1) (j := 23) (by kernel_rfl) ?_ ?_
   ·
    refine E_val (i := 1) rfl (Y_load U23 rfl rfl (B5.at (by rfl))) GS8 ?_
    refine D_1 (i := 23) (by kernel_rfl) ?_
    refine E_bs1 (cs := [_, _, _]) (i := 23) rfl U23 zr50 sz50 rfl rfl rfl ?_
    intro b23 w23 fb23 g23 B23
    refine ⟨GS8.grow g23, ?_⟩
    have lb23 := B23.lt
    replace hAl := hAl.grow g23
    replace hBl := hBl.grow g23
    replace cc2 := cc2.grow g23
    replace hE2 := hE2.grow g23
    replace OX := OX.grow g23
    replace OC1 := OC1.grow g23
    replace OR1 := OR1.grow g23
    replace OY := OY.grow g23
    replace G := G.grow g23
    replace GL7 := GL7.grow g23
    replace GS8 := GS8.grow g23
    replace B1 := B1.grow g23
    replace B2 := B2.grow g23
    replace B5 := B5.grow g23
    have zg23 := g23.size
    refine D_1 (i := 24) (by kernel_rfl) ?_
    refine E_app2 (i := 24) rfl U23 zr50 sz50 by50 rfl rfl OC1 rfl (Src.blk B23) (by simp [Value.oneCell']) (by omega) (Pr' := fun i => (wz ≤ i)) (fun i hi => by omega) (by omega) ?_
    intro A24 cap24 w24 X24 m24 n24
    replace OR1 := OR1.app OC1 hne n24
    replace OC1 := X24
    clear X24 n24
    replace G := G.abv m24
    replace GL7 := GL7.trn m24
    replace GS8 := GS8.trn m24
    replace hAl := hAl0.grow G
    replace hBl := hBl0.grow G
    replace cc2 := cc20.grow G
    replace hE2 := hE20.grow G
    replace OX := OX.md m24
    replace OY := OY.md m24
    replace B1 := B1.md m24
    replace B2 := B2.md m24
    replace B5 := B5.md m24
    have zm24 := m24.size
    refine ⟨GS8, ?_⟩
    have OR2 := OR1.more (c := h.cells[k]) OY (fun i hi => by omega) (Pr' := fun i => wz ≤ i) (fun i hi => by omega) (fun i hi => by omega)
    replace OC1 : OW (fun i => (wz ≤ i)) w24 50 3 A24 (q1 + 1) cap24 (flatC (h.cells.take (k + 1)) (rs ++ [(AY, capY)])) := by rw [List.take_succ_eq_append_getElem hk1, ← flat_more OR1.len]; exact OC1
    rw [← List.take_succ_eq_append_getElem hk1] at OR2
    refine Dq (i := 25) rfl GS8 (fun _ _ => Y_field U26 rfl fz26_0 (by decide) rfl) ?_
    refine D_1 (i := 26) (by kernel_rfl) ?_
    refine E_stM (pre := []) (old := [_]) (post := [_]) (vs := [_]) (i := 26) rfl sz23 rfl rfl rfl (by first | rfl | assumption) B5 rfl rfl ?_
    intro w25 m25 X25
    replace B5 := Blk.eq (ys := [_, _]) X25 rfl
    clear X25
    replace G := G.abv m25
    replace GL7 := GL7.trn m25
    replace GS8 := GS8.trn m25
    replace hAl := hAl0.grow G
    replace hBl := hBl0.grow G
    replace cc2 := cc20.grow G
    replace hE2 := hE20.grow G
    replace OX := OX.md m25
    replace OC1 := OC1.md m25
    replace OR2 := OR2.md m25
    replace B1 := B1.md m25
    replace B2 := B2.md m25
    have zm25 := m25.size
    refine ⟨GS8, ?_⟩
    refine D_en (by kernel_rfl) rfl rfl ?_
    refine ib_n ?_
    refine th_n (hK7 _ _ ?_)
    clear hK7 K7
    refine Sb 44 rfl ?_
    refine Smv rfl ?_
    refine S_val (Y_inc rfl rfl (by omega)) ?_
    refine Sas rfl ?_
    refine S_nl rfl rfl ?_
    refine th_n ?_
    go_roundw
    case rel =>
     refine ⟨?_, GL7⟩
     exact ⟨k + 1, _, _, _, _, rfl, by omega, by omega, B5, OC1, OR2⟩
    case measure =>
     exact dec_nat (by omega)
   refine E_bs1 (cs := [_, _, _]) (i := 23) rfl U23 zr50 sz50 rfl rfl rfl ?_
   intro b26 w26 fb26 g26 B26
   refine ⟨GS8.grow g26, ?_⟩
   have lb26 := B26.lt
   replace hAl := hAl.grow g26
   replace hBl := hBl.grow g26
   replace cc2 := cc2.grow g26
   replace hE2 := hE2.grow g26
   replace OX := OX.grow g26
   replace OC1 := OC1.grow g26
   replace OR1 := OR1.grow g26
   replace OY := OY.grow g26
   replace G := G.grow g26
   replace GL7 := GL7.grow g26
   replace GS8 := GS8.grow g26
   replace B1 := B1.grow g26
   replace B2 := B2.grow g26
   replace B5 := B5.grow g26
   have zg26 := g26.size
   refine D_1 (i := 1) (by kernel_rfl) ?_
   refine E_val (i := 1) rfl (Y_load U23 rfl rfl (B5.at (by rfl))) GS8 ?_
   refine D_1 (i := 24) (by kernel_rfl) ?_
   refine E_app2 (i := 24) rfl U23 zr50 sz50 by50 rfl rfl OC1 rfl (Src.blk B26) (by simp [Value.oneCell']) (by omega) (Pr' := fun i => (wz ≤ i)) (fun i hi => by omega) (by omega) ?_
   intro A28 cap28 w28 X28 m28 n28
   replace OR1 := OR1.app OC1 hne n28
   replace OC1 := X28
   clear X28 n28
   replace G := G.abv m28
   replace GL7 := GL7.trn m28
   replace GS8 := GS8.trn m28
   replace hAl := hAl0.grow G
   replace hBl := hBl0.grow G
   replace cc2 := cc20.grow G
   replace hE2 := hE20.grow G
   replace OX := OX.md m28
   replace OY := OY.md m28
   replace B1 := B1.md m28
   replace B2 := B2.md m28
   replace B5 := B5.md m28
   have zm28 := m28.size
   refine ⟨GS8, ?_⟩
   have OR2 := OR1.more (c := h.cells[k]) OY (fun i hi => by omega) (Pr' := fun i => wz ≤ i) (fun i hi => by omega) (fun i hi => by omega)
   replace OC1 : OW (fun i => (wz ≤ i)) w28 50 3 A28 (q1 + 1) cap28 (flatC (h.cells.take (k + 1)) (rs ++ [(AY, capY)])) := by rw [List.take_succ_eq_append_getElem hk1, ← flat_more OR1.len]; exact OC1
   rw [← List.take_succ_eq_append_getElem hk1] at OR2
   refine Dq (i := 25) rfl GS8 (fun _ _ => Y_field U26 rfl fz26_0 (by decide) rfl) ?_
   refine D_1 (i := 26) (by kernel_rfl) ?_
   refine E_stM (pre := []) (old := [_]) (post := [_]) (vs := [_]) (i := 26) rfl sz23 rfl rfl rfl (by first | rfl | assumption) B5 rfl rfl ?_
   intro w29 m29 X29
   replace B5 := Blk.eq (ys := [_, _]) X29 rfl
   clear X29
   replace G := G.abv m29
   replace GL7 := GL7.trn m29
   replace GS8 := GS8.trn m29
   replace hAl := hAl0.grow G
   replace hBl := hBl0.grow G
   replace cc2 := cc20.grow G
   replace hE2 := hE20.grow G
   replace OX := OX.md m29
   replace OC1 := OC1.md m29
   replace OR2 := OR2.md m29
   replace B1 := B1.md m29
   replace B2 := B2.md m29
   have zm29 := m29.size
   refine ⟨GS8, ?_⟩
   refine D_en (by kernel_rfl) rfl rfl ?_
   refine ib_n ?_
   refine th_n (hK7 _ _ ?_)
   clear hK7 K7
   refine Sb 44 rfl ?_
   refine Smv rfl ?_
   refine S_val (Y_inc rfl rfl (by omega)) ?_
   refine Sas rfl ?_
   refine S_nl rfl rfl ?_
   refine th_n ?_
   go_roundw
   case rel =>
    refine ⟨?_, GL7⟩
    exact ⟨k + 1, _, _, _, _, rfl, by omega, by omega, B5, OC1, OR2⟩
   case measure =>
    exact dec_nat (by omega)
  replace hb1 := nb_tf hb1
  refine wp_exit ?_
  refine th_x ?_
  try clear GL7
  refine th_x ?_
  refine ib_e ?_
  refine th_n (hK3 _ _ ?_)
  clear hK5 K5 hK3 K3
  refine wp_seq_k fun K8 hK8 => ?_
  refine Sb 44 rfl ?_
  refine S_val (Y_loadS U26 rfl sz26 rfl (B5.row (by rfl))) ?_
  refine S_stM (pre := []) (old := [_, _]) (post := []) (vs := [_, _]) sz26 rfl rfl rfl (by first | rfl | assumption) B2 rfl rfl ?_
  intro w30 m30 X30
  replace B2 := Blk.eq (ys := [_, _]) X30 rfl
  clear X30
  replace G := G.abv m30
  replace hAl := hAl0.grow G
  replace hBl := hBl0.grow G
  replace OX := OX.md m30
  replace OC1 := OC1.md m30
  replace OR1 := OR1.md m30
  replace B1 := B1.md m30
  replace B5 := B5.md m30
  have zm30 := m30.size
  refine S_nl rfl rfl ?_
  refine th_n (hK8 _ _ ?_)
  clear hK8 K8
  refine wp_ret ?_
  refine ret_rc (cs := [_, _]) U26 rfl sz26 rfl rfl (B2.row (by rfl)) ?_
  rw [List.take_of_length_le (by omega)] at hlk OC1 OR1
  rw [hq1, ← hlk] at OC1
  exact ⟨_, _, _, _, _, _, rs, rfl, by omega, rfl, OH.of_parts (h := h) (OC.grown OC1 OR1 (fun _ h => h) (fun _ h => h)) OX.oi (fun k b h1 h2 h3 => by omega) (fun k hk => by omega) (fun k hk => by omega), G⟩
end
/-! WalkN -/
section
open Go Go.RowKit
attribute [local irreducible] wpList wpAnyH Code.wp dOp
set_option maxHeartbeats 400000 in
set_option maxRecDepth 20000 in
theorem spec_CommandValid_c (op a b c : Int) (w : World) :
    Calls Try.prog 81 #[.agg #[.int .i64 op, .int .i64 a, .int .i64 b, .int .i64 c]] w (Ret fun v w' => v = .bool (cvB ⟨op, a, b, c⟩) ∧ Grow w w') := by
 refine enter Try.func81 rfl Try.ntmps81 (L := [_,_,_,_,_,_,_,_,_,_,_,_,_,_,_,_,_,_,_,_,_,_,_,_,_,_,_,_,_,_,_,_,_,_,_,_,_,_,_,_,_,_,_,_,_,_,_,_,_,_,_,_,_,_,_,_,_,_,_,_,_,_,_,_,_,_,_,_,_,_,_,_,_,_,_]) rfl ?_
 have G := Mod.refl No w
 refine wp_seq_k fun K1 hK1 => ?_
 refine Sb 75 rfl ?_
 refine S_box (cs := [_, _, _, _]) rfl rfl ?_
 intro b1 w1 fb1 g1 B1
 have lb1 := B1.lt
 replace G := G.grow g1
 have zg1 := g1.size
 refine Sas rfl ?_
 refine S_nl rfl rfl ?_
 refine th_n (hK1 _ _ ?_)
 clear hK1 K1
 refine wp_seq_k fun K2 hK2 => ?_
 refine Sb 75 rfl ?_
 refine S_val (Y_field U104 rfl fz104_1 (by decide) rfl) ?_
 refine S_val (Y_load U3 rfl rfl (B1.at (by rfl))) ?_
 refine S_call rfl en45 (spec_l1In_c _ _ _ _) ?_
 rintro v w' ⟨rfl, rfl⟩
 refine Sas rfl ?_
 refine S_nl rfl rfl ?_
 refine th_n (hK2 _ _ ?_)
 clear hK2 K2
 refine wp_seq_k fun K3 hK3 => ?_
 refine Sb 75 rfl ?_
 refine S_val (Y_field U104 rfl fz104_2 (by decide) rfl) ?_
 refine S_val (Y_load U3 rfl rfl (B1.at (by rfl))) ?_
 refine S_call rfl en45 (spec_l1In_c _ _ _ _) ?_
 rintro v w' ⟨rfl, rfl⟩
 refine Sas rfl ?_
 refine S_nl rfl rfl ?_
 refine th_n (hK3 _ _ ?_)
 clear hK3 K3
 refine wp_seq_k fun K4 hK4 => ?_
 refine wp_seq_k fun K5 hK5 => ?_
 refine Sb 75 rfl ?_
 refine S_val (Y_field U104 rfl fz104_0 (by decide) rfl) ?_
 refine S_val (Y_load U3 rfl rfl (B1.at (by rfl))) ?_
 refine S_nl rfl rfl ?_
 refine th_n (hK5 _ _ ?_)
 clear hK5 K5
 refine wp_block ?_
 refine wp_seq_k fun K6 hK6 => ?_
 refine Sb 75 rfl ?_
 refine S_val (Y_eql rfl rfl) ?_
 refine Sas rfl ?_
 refine S_nl rfl rfl ?_
 refine th_n (hK6 _ _ ?_)
 clear hK6 K6
 refine S_if rfl (fun hb1 => ?_) (fun hb1 => ?_)
 ·
  replace hb1 := nb_tt hb1
  refine wp_seq_k fun K7 hK7 => ?_
  refine Sb 75 rfl ?_
  refine Smv rfl ?_
  refine Smv rfl ?_
  refine S_g 16 rfl (fun hb2 => ?_) (fun hb2 => ?_)
  ·
   first | with_reducible (replace hb2 := nb_nt hb2) | with_reducible (replace hb2 := nb_tt hb2) | with_reducible (replace hb2 := nb_bt hb2) | skip
   refine S_on rfl rfl ?_
   refine S_val (Y_field U104 rfl fz104_2 (by decide) rfl) ?_
   refine S_on rfl rfl ?_
   refine S_val (Y_load U3 rfl rfl (B1.at (by rfl))) ?_
   refine S_on rfl rfl ?_
   refine S_call rfl en45 (spec_l1In_c _ _ _ _) ?_
   rintro v w' ⟨rfl, rfl⟩
   refine S_val (Y_pickT rfl rfl) ?_
   refine Smv rfl ?_
   refine S_g 21 rfl (fun hb3 => ?_) (fun hb3 => ?_)
   ·
    first | with_reducible (replace hb3 := nb_nt hb3) | with_reducible (replace hb3 := nb_tt hb3) | with_reducible (replace hb3 := nb_bt hb3) | skip
    refine S_on rfl rfl ?_
    refine S_val (Y_field U104 rfl fz104_3 (by decide) rfl) ?_
    refine S_on rfl rfl ?_
    refine S_val (Y_load U3 rfl rfl (B1.at (by rfl))) ?_
    refine S_on rfl rfl ?_
    refine S_call rfl en45 (spec_l1In_c _ _ _ _) ?_
    rintro v w' ⟨rfl, rfl⟩
    refine S_val (Y_pickT rfl rfl) ?_
    refine Sas rfl ?_
    refine S_nl rfl rfl ?_
    refine th_n (hK7 _ _ ?_)
    clear hK7 K7
    refine wp_ret ?_
    refine ib_r ?_
    refine th_r ?_
    clear hK4 K4
    refine ret_r1 rfl rfl ?_
    exact ⟨by first | exact cvB_f (by unfold cvP; dsimp only; omega) | exact cvB_d (by unfold cvP; dsimp only; omega) | exact cvB_t (by unfold cvP; dsimp only; omega), G⟩
   first | with_reducible (replace hb3 := nb_nf hb3) | with_reducible (replace hb3 := nb_tf hb3) | with_reducible (replace hb3 := nb_bf hb3) | skip
   refine S_off rfl rfl ?_
   refine S_off rfl rfl ?_
   refine S_off rfl rfl ?_
   refine S_val (Y_pickF rfl rfl) ?_
   refine Sas rfl ?_
   refine S_nl rfl rfl ?_
   refine th_n (hK7 _ _ ?_)
   clear hK7 K7
   refine wp_ret ?_
   refine ib_r ?_
   refine th_r ?_
   clear hK4 K4
   refine ret_r1 rfl rfl ?_
   exact ⟨by first | exact cvB_f (by unfold cvP; dsimp only; omega) | exact cvB_d (by unfold cvP; dsimp only; omega) | exact cvB_t (by unfold cvP; dsimp only; omega), G⟩
  first | with_reducible (replace hb2 := nb_nf hb2) | with_reducible (replace hb2 := nb_tf hb2) | with_reducible (replace hb2 := nb_bf hb2) | skip
  refine S_off rfl rfl ?_
  refine S_off rfl rfl ?_
  refine S_off rfl rfl ?_
  refine S_val (Y_pickF rfl rfl) ?_
  refine Smv rfl ?_
  refine S_off rfl rfl ?_
  refine S_off rfl rfl ?_
  refine S_off rfl rfl ?_
  refine S_val (Y_pickF rfl rfl) ?_
  refine Sas rfl ?_
  refine S_nl rfl rfl ?_
  refine th_n (hK7 _ _ ?_)
  clear hK7 K7
  refine wp_ret ?_
  refine ib_r ?_
  refine th_r ?_
  clear hK4 K4
  refine ret_r1 rfl rfl ?_
  exact ⟨by first | exact cvB_f (by unfold cvP; dsimp only; omega) | exact cvB_d (by unfold cvP; dsimp only; omega) | exact cvB_t (by unfold cvP; dsimp only; omega), G⟩
 replace hb1 := nb_tf hb1
 refine wp_seq_k fun K8 hK8 => ?_
 refine wp_seq_k fun K9 hK9 => ?_
 refine Sb 75 rfl ?_
 refine S_val (Y_eql rfl rfl) ?_
 refine Sas rfl ?_
 refine S_nl rfl rfl ?_
 refine th_n (hK9 _ _ ?_)
 clear hK9 K9
 refine S_if rfl (fun hb2 => ?_) (fun hb2 => ?_)
 ·
  replace hb2 := nb_tt hb2
  refine wp_skip ?_
  refine th_n (hK8 _ _ ?_)
  clear hK8 K8
  refine S_if rfl (fun hb3 => ?_) (fun hb3 => ?_)
  ·
   replace hb3 := nb_tt hb3
   refine wp_seq_k fun K10 hK10 => ?_
   refine Sb 75 rfl ?_
   refine Smv rfl ?_
   refine Smv rfl ?_
   refine S_g 30 rfl (fun hb4 => ?_) (fun hb4 => ?_)
   ·
    first | with_reducible (replace hb4 := nb_nt hb4) | with_reducible (replace hb4 := nb_tt hb4) | with_reducible (replace hb4 := nb_bt hb4) | skip
    refine S_on rfl rfl ?_
    refine Smv rfl ?_
    refine S_val (Y_pickT rfl rfl) ?_
    refine Smv rfl ?_
    refine S_g 33 rfl (fun hb5 => ?_) (fun hb5 => ?_)
    ·
     first | with_reducible (replace hb5 := nb_nt hb5) | with_reducible (replace hb5 := nb_tt hb5) | with_reducible (replace hb5 := nb_bt hb5) | skip
     refine S_on rfl rfl ?_
     refine S_val (Y_field U104 rfl fz104_3 (by decide) rfl) ?_
     refine S_on rfl rfl ?_
     refine S_val (Y_load U3 rfl rfl (B1.at (by rfl))) ?_
     refine S_on rfl rfl ?_
     refine S_call rfl en45 (spec_l1In_c _ _ _ _) ?_
     rintro v w' ⟨rfl, rfl⟩
     refine S_val (Y_pickT rfl rfl) ?_
     refine Sas rfl ?_
     refine S_nl rfl rfl ?_
     refine th_n (hK10 _ _ ?_)
     clear hK10 K10
     refine wp_ret ?_
     refine ib_r ?_
     refine th_r ?_
     clear hK4 K4
     refine ret_r1 rfl rfl ?_
     exact ⟨by first | exact cvB_f (by unfold cvP; dsimp only; omega) | exact cvB_d (by unfold cvP; dsimp only; omega) | exact cvB_t (by unfold cvP; dsimp only; omega), G⟩
    first | with_reducible (replace hb5 := nb_nf hb5) | with_reducible (replace hb5 := nb_tf hb5) | with_reducible (replace hb5 := nb_bf hb5) | skip
    refine S_off rfl rfl ?_
    refine S_off rfl rfl ?_
    refine S_off rfl rfl ?_
    refine S_val (Y_pickF rfl rfl) ?_
    refine Sas rfl ?_
    refine S_nl rfl rfl ?_
    refine th_n (hK10 _ _ ?_)
    clear hK10 K10
    refine wp_ret ?_
    refine ib_r ?_
    refine th_r ?_
    clear hK4 K4
    refine ret_r1 rfl rfl ?_
    exact ⟨by first | exact cvB_f (by unfold cvP; dsimp only; omega) | exact cvB_d (by unfold cvP; dsimp only; omega) | exact cvB_t (by unfold cvP; dsimp only; omega), G⟩
   first | with_reducible (replace hb4 := nb_nf hb4) | with_reducible (replace hb4 := nb_tf hb4) | with_reducible (replace hb4 := nb_bf hb4) | skip
   refine S_off rfl rfl ?_
   refine S_val (Y_pickF rfl rfl) ?_
   refine Smv rfl ?_
   refine S_off rfl rfl ?_
   refine S_off rfl rfl ?_
   refine S_off rfl rfl ?_
   refine S_val (Y_pickF rfl rfl) ?_
   refine Sas rfl ?_
   refine S_nl rfl rfl ?_
   refine th_n (hK10 _ _ ?_)
   clear hK10 K10
   refine wp_ret ?_
   refine ib_r ?_
   refine th_r ?_
   clear hK4 K4
   refine ret_r1 rfl rfl ?_
   exact ⟨by first | exact cvB_f (by unfold cvP; dsimp only; omega) | exact cvB_d (by unfold cvP; dsimp only; omega) | exact cvB_t (by unfold cvP; dsimp only; omega), G⟩
  replace hb3 := nb_tf hb3
  refine wp_seq_k fun K11 hK11 => ?_
  refine Sb 75 rfl ?_
  refine S_val (Y_eql rfl rfl) ?_
  refine Sas rfl ?_
  refine S_nl rfl rfl ?_
  refine th_n (hK11 _ _ ?_)
  clear hK11 K11
  refine S_if rfl (fun hb4 => ?_) (fun hb4 => ?_)
  ·
   replace hb4 := nb_tt hb4
   refine wp_seq_k fun K12 hK12 => ?_
   refine Sb 75 rfl ?_
   refine Smv rfl ?_
   refine Smv rfl ?_
   refine S_g 41 rfl (fun hb5 => ?_) (fun hb5 => ?_)
   ·
    first | with_reducible (replace hb5 := nb_nt hb5) | with_reducible (replace hb5 := nb_tt hb5) | with_reducible (replace hb5 := nb_bt hb5) | skip
    refine S_on rfl rfl ?_
    refine Smv rfl ?_
    refine S_val (Y_pickT rfl rfl) ?_
    refine Smv rfl ?_
    refine S_g 44 rfl (fun hb6 => ?_) (fun hb6 => ?_)
    ·
     first | with_reducible (replace hb6 := nb_nt hb6) | with_reducible (replace hb6 := nb_tt hb6) | with_reducible (replace hb6 := nb_bt hb6) | skip
     refine S_on rfl rfl ?_
     refine S_val (Y_field U104 rfl fz104_3 (by decide) rfl) ?_
     refine S_on rfl rfl ?_
     refine S_val (Y_load U3 rfl rfl (B1.at (by rfl))) ?_
     refine S_on rfl rfl ?_
     refine S_val (Y_eql rfl rfl) ?_
     refine S_val (Y_pickT rfl rfl) ?_
     refine Sas rfl ?_
     refine S_nl rfl rfl ?_
     refine th_n (hK12 _ _ ?_)
     clear hK12 K12
     refine wp_ret ?_
     refine ib_r ?_
     refine th_r ?_
     clear hK4 K4
     refine ret_r1 rfl rfl ?_
     exact ⟨by first | exact cvB_f (by unfold cvP; dsimp only; omega) | exact cvB_d (by unfold cvP; dsimp only; omega) | exact cvB_t (by unfold cvP; dsimp only; omega), G⟩
    first | with_reducible (replace hb6 := nb_nf hb6) | with_reducible (replace hb6 := nb_tf hb6) | with_reducible (replace hb6 := nb_bf hb6) | skip
    refine S_off rfl rfl ?_
    refine S_off rfl rfl ?_
    refine S_off rfl rfl ?_
    refine S_val (Y_pickF rfl rfl) ?_
    refine Sas rfl ?_
    refine S_nl rfl rfl ?_
    refine th_n (hK12 _ _ ?_)
    clear hK12 K12
    refine wp_ret ?_
    refine ib_r ?_
    refine th_r ?_
    clear hK4 K4
    refine ret_r1 rfl rfl ?_
    exact ⟨by first | exact cvB_f (by unfold cvP; dsimp only; omega) | exact cvB_d (by unfold cvP; dsimp only; omega) | exact cvB_t (by unfold cvP; dsimp only; omega), G⟩
   first | with_reducible (replace hb5 := nb_nf hb5) | with_reducible (replace hb5 := nb_tf hb5) | with_reducible (replace hb5 := nb_bf hb5) | skip
   refine S_off rfl rfl ?_
   refine S_val (Y_pickF rfl rfl) ?_
   refine Smv rfl ?_
   refine S_off rfl rfl ?_
   refine S_off rfl rfl ?_
   refine S_off rfl rfl ?_
   refine S_val (Y_pickF rfl rfl) ?_
   refine Sas rfl ?_
   refine S_nl rfl rfl ?_
   refine th_n (hK12 _ _ ?_)
   clear hK12 K12
   refine wp_ret ?_
   refine ib_r ?_
   refine th_r ?_
   clear hK4 K4
   refine ret_r1 rfl rfl ?_
   exact ⟨by first | exact cvB_f (by unfold cvP; dsimp only; omega) | exact cvB_d (by unfold cvP; dsimp only; omega) | exact cvB_t (by unfold cvP; dsimp only; omega), G⟩
  replace hb4 := nb_tf hb4
  refine wp_seq_k fun K13 hK13 => ?_
  refine Sb 75 rfl ?_
  refine S_val (Y_eql rfl rfl) ?_
  refine Sas rfl ?_
  refine S_nl rfl rfl ?_
  refine th_n (hK13 _ _ ?_)
  clear hK13 K13
  refine S_if rfl (fun hb5 => ?_) (fun hb5 => ?_)
  ·
   replace hb5 := nb_tt hb5
   refine wp_seq_k fun K14 hK14 => ?_
   refine Sb 75 rfl ?_
   refine Smv rfl ?_
   refine Smv rfl ?_
   refine S_g 52 rfl (fun hb6 => ?_) (fun hb6 => ?_)
   ·
    first | with_reducible (replace hb6 := nb_nt hb6) | with_reducible (replace hb6 := nb_tt hb6) | with_reducible (replace hb6 := nb_bt hb6) | skip
    refine S_on rfl rfl ?_
    refine S_val (Y_field U104 rfl fz104_2 (by decide) rfl) ?_
    refine S_on rfl rfl ?_
    refine S_val (Y_load U3 rfl rfl (B1.at (by rfl))) ?_
    refine S_on rfl rfl ?_
    refine S_val (Y_eql rfl rfl) ?_
    refine S_val (Y_pickT rfl rfl) ?_
    refine Smv rfl ?_
    refine S_g 57 rfl (fun hb7 => ?_) (fun hb7 => ?_)
    ·
     first | with_reducible (replace hb7 := nb_nt hb7) | with_reducible (replace hb7 := nb_tt hb7) | with_reducible (replace hb7 := nb_bt hb7) | skip
     refine S_on rfl rfl ?_
     refine S_val (Y_field U104 rfl fz104_3 (by decide) rfl) ?_
     refine S_on rfl rfl ?_
     refine S_val (Y_load U3 rfl rfl (B1.at (by rfl))) ?_
     refine S_on rfl rfl ?_
     refine S_val (Y_eql rfl rfl) ?_
     refine S_val (Y_pickT rfl rfl) ?_
     refine Sas rfl ?_
     refine S_nl rfl rfl ?_
     refine th_n (hK14 _ _ ?_)
     clear hK14 K14
     refine wp_ret ?_
     refine ib_r ?_
     refine th_r ?_
     clear hK4 K4
     refine ret_r1 rfl rfl ?_
     exact ⟨by first | exact cvB_f (by unfold cvP; dsimp only; omega) | exact cvB_d (by unfold cvP; dsimp only; omega) | exact cvB_t (by unfold cvP; dsimp only; omega), G⟩
    first | with_reducible (replace hb7 := nb_nf hb7) | with_reducible (replace hb7 := nb_tf hb7) | with_reducible (replace hb7 := nb_bf hb7) | skip
    refine S_off rfl rfl ?_
    refine S_off rfl rfl ?_
    refine S_off rfl rfl ?_
    refine S_val (Y_pickF rfl rfl) ?_
    refine Sas rfl ?_
    refine S_nl rfl rfl ?_
    refine th_n (hK14 _ _ ?_)
    clear hK14 K14
    refine wp_ret ?_
    refine ib_r ?_
    refine th_r ?_
    clear hK4 K4
    refine ret_r1 rfl rfl ?_
    exact ⟨by first | exact cvB_f (by unfold cvP; dsimp only; omega) | exact cvB_d (by unfold cvP; dsimp only; omega) | exact cvB_t (by unfold cvP; dsimp only; omega), G⟩
   first | with_reducible (replace hb6 := nb_nf hb6) | with_reducible (replace hb6 := nb_tf hb6) | with_reducible (replace hb6 := nb_bf hb6) | skip
   refine S_off rfl rfl ?_
   refine S_off rfl rfl ?_
   refine S_off rfl rfl ?_
   refine S_val (Y_pickF rfl rfl) ?_
   refine Smv rfl ?_
   refine S_off rfl rfl ?_
   refine S_off rfl rfl ?_
   refine S_off rfl rfl ?_
   refine S_val (Y_pickF rfl rfl) ?_
   refine Sas rfl ?_
   refine S_nl rfl rfl ?_
   refine th_n (hK14 _ _ ?_)
   clear hK14 K14
   refine wp_ret ?_
   refine ib_r ?_
   refine th_r ?_
   clear hK4 K4
   refine ret_r1 rfl rfl ?_
   exact ⟨by first | exact cvB_f (by unfold cvP; dsimp only; omega) | exact cvB_d (by unfold cvP; dsimp only; omega) | exact cvB_t (by unfold cvP; dsimp only; omega), G⟩
  replace hb5 := nb_tf hb5
  refine wp_seq_k fun K15 hK15 => ?_
  refine Sb 75 rfl ?_
  refine S_val (Y_eql rfl rfl) ?_
  refine Sas rfl ?_
  refine S_nl rfl rfl ?_
  refine th_n (hK15 _ _ ?_)
  clear hK15 K15
  refine S_if rfl (fun hb6 => ?_) (fun hb6 => ?_)
  ·
   replace hb6 := nb_tt hb6
   refine wp_seq_k fun K16 hK16 => ?_
   refine Sb 75 rfl ?_
   refine Smv rfl ?_
   refine Smv rfl ?_
   refine S_g 65 rfl (fun hb7 => ?_) (fun hb7 => ?_)
   ·
    first | with_reducible (replace hb7 := nb_nt hb7) | with_reducible (replace hb7 := nb_tt hb7) | with_reducible (replace hb7 := nb_bt hb7) | skip
    refine S_on rfl rfl ?_
    refine S_val (Y_field U104 rfl fz104_2 (by decide) rfl) ?_
    refine S_on rfl rfl ?_
    refine S_val (Y_load U3 rfl rfl (B1.at (by rfl))) ?_
    refine S_on rfl rfl ?_
    refine S_call rfl en45 (spec_l1In_c _ _ _ _) ?_
    rintro v w' ⟨rfl, rfl⟩
    refine S_val (Y_pickT rfl rfl) ?_
    refine Smv rfl ?_
    refine S_g 70 rfl (fun hb8 => ?_) (fun hb8 => ?_)
    ·
     first | with_reducible (replace hb8 := nb_nt hb8) | with_reducible (replace hb8 := nb_tt hb8) | with_reducible (replace hb8 := nb_bt hb8) | skip
     refine S_on rfl rfl ?_
     refine S_val (Y_field U104 rfl fz104_3 (by decide) rfl) ?_
     refine S_on rfl rfl ?_
     refine S_val (Y_load U3 rfl rfl (B1.at (by rfl))) ?_
     refine S_on rfl rfl ?_
     refine S_val (Y_eql rfl rfl) ?_
     refine S_val (Y_pickT rfl rfl) ?_
     refine Sas rfl ?_
     refine S_nl rfl rfl ?_
     refine th_n (hK16 _ _ ?_)
     clear hK16 K16
     refine wp_ret ?_
     refine ib_r ?_
     refine th_r ?_
     clear hK4 K4
     refine ret_r1 rfl rfl ?_
     exact ⟨by first | exact cvB_f (by unfold cvP; dsimp only; omega) | exact cvB_d (by unfold cvP; dsimp only; omega) | exact cvB_t (by unfold cvP; dsimp only; omega), G⟩
    first | with_reducible (replace hb8 := nb_nf hb8) | with_reducible (replace hb8 := nb_tf hb8) | with_reducible (replace hb8 := nb_bf hb8) | skip
    refine S_off rfl rfl ?_
    refine S_off rfl rfl ?_
    refine S_off rfl rfl ?_
    refine S_val (Y_pickF rfl rfl) ?_
    refine Sas rfl ?_
    refine S_nl rfl rfl ?_
    refine th_n (hK16 _ _ ?_)
    clear hK16 K16
    refine wp_ret ?_
    refine ib_r ?_
    refine th_r ?_
    clear hK4 K4
    refine ret_r1 rfl rfl ?_
    exact ⟨by first | exact cvB_f (by unfold cvP; dsimp only; omega) | exact cvB_d (by unfold cvP; dsimp only; omega) | exact cvB_t (by unfold cvP; dsimp only; omega), G⟩
   first | with_reducible (replace hb7 := nb_nf hb7) | with_reducible (replace hb7 := nb_tf hb7) | with_reducible (replace hb7 := nb_bf hb7) | skip
   refine S_off rfl rfl ?_
   refine S_off rfl rfl ?_
   refine S_off rfl rfl ?_
   refine S_val (Y_pickF rfl rfl) ?_
   refine Smv rfl ?_
   refine S_off rfl rfl ?_
   refine S_off rfl rfl ?_
   refine S_off rfl rfl ?_
   refine S_val (Y_pickF rfl rfl) ?_
   refine Sas rfl ?_
   refine S_nl rfl rfl ?_
   refine th_n (hK16 _ _ ?_)
   clear hK16 K16
   refine wp_ret ?_
   refine ib_r ?_
   refine th_r ?_
   clear hK4 K4
   refine ret_r1 rfl rfl ?_
   exact ⟨by first | exact cvB_f (by unfold cvP; dsimp only; omega) | exact cvB_d (by unfold cvP; dsimp only; omega) | exact cvB_t (by unfold cvP; dsimp only; omega), G⟩
  replace hb6 := nb_tf hb6
  refine wp_skip ?_
  refine ib_n ?_
  refine th_n (hK4 _ _ ?_)
  clear hK4 K4
  refine wp_seq_k fun K17 hK17 => ?_
  refine Sb 75 rfl ?_
  refine Sas rfl ?_
  refine S_nl rfl rfl ?_
  refine th_n (hK17 _ _ ?_)
  clear hK17 K17
  refine wp_ret ?_
  refine ret_r1 rfl rfl ?_
  exact ⟨by first | exact cvB_f (by unfold cvP; dsimp only; omega) | exact cvB_d (by unfold cvP; dsimp only; omega) | exact cvB_t (by unfold cvP; dsimp only; omega), G⟩
 replace hb2 := nb_tf hb2
 refine Sb 75 rfl ?_
 refine S_val (Y_eql rfl rfl) ?_
 refine Sas rfl ?_
 refine S_nl rfl rfl ?_
 refine th_n (hK8 _ _ ?_)
 clear hK8 K8
 refine S_if rfl (fun hb3 => ?_) (fun hb3 => ?_)
 ·
  replace hb3 := nb_tt hb3
  refine wp_seq_k fun K18 hK18 => ?_
  refine Sb 75 rfl ?_
  refine Smv rfl ?_
  refine Smv rfl ?_
  refine S_g 30 rfl (fun hb4 => ?_) (fun hb4 => ?_)
  ·
   first | with_reducible (replace hb4 := nb_nt hb4) | with_reducible (replace hb4 := nb_tt hb4) | with_reducible (replace hb4 := nb_bt hb4) | skip
   refine S_on rfl rfl ?_
   refine Smv rfl ?_
   refine S_val (Y_pickT rfl rfl) ?_
   refine Smv rfl ?_
   refine S_g 33 rfl (fun hb5 => ?_) (fun hb5 => ?_)
   ·
    first | with_reducible (replace hb5 := nb_nt hb5) | with_reducible (replace hb5 := nb_tt hb5) | with_reducible (replace hb5 := nb_bt hb5) | skip
    refine S_on rfl rfl ?_
    refine S_val (Y_field U104 rfl fz104_3 (by decide) rfl) ?_
    refine S_on rfl rfl ?_
    refine S_val (Y_load U3 rfl rfl (B1.at (by rfl))) ?_
    refine S_on rfl rfl ?_
    refine S_call rfl en45 (spec_l1In_c _ _ _ _) ?_
    rintro v w' ⟨rfl, rfl⟩
    refine S_val (Y_pickT rfl rfl) ?_
    refine Sas rfl ?_
    refine S_nl rfl rfl ?_
    refine th_n (hK18 _ _ ?_)
    clear hK18 K18
    refine wp_ret ?_
    refine ib_r ?_
    refine th_r ?_
    clear hK4 K4
    refine ret_r1 rfl rfl ?_
    exact ⟨by first | exact cvB_f (by unfold cvP; dsimp only; omega) | exact cvB_d (by unfold cvP; dsimp only; omega) | exact cvB_t (by unfold cvP; dsimp only; omega), G⟩
   first | with_reducible (replace hb5 := nb_nf hb5) | with_reducible (replace hb5 := nb_tf hb5) | with_reducible (replace hb5 := nb_bf hb5) | skip
   refine S_off rfl rfl ?_
   refine S_off rfl rfl ?_
   refine S_off rfl rfl ?_
   refine S_val (Y_pickF rfl rfl) ?_
   refine Sas rfl ?_
   refine S_nl rfl rfl ?_
   refine th_n (hK18 _ _ ?_)
   clear hK18 K18
   refine wp_ret ?_
   refine ib_r ?_
   refine th_r ?_
   clear hK4 K4
   refine ret_r1 rfl rfl ?_
   exact ⟨by first | exact cvB_f (by unfold cvP; dsimp only; omega) | exact cvB_d (by unfold cvP; dsimp only; omega) | exact cvB_t (by unfold cvP; dsimp only; omega), G⟩
  first | with_reducible (replace hb4 := nb_nf hb4) | with_reducible (replace hb4 := nb_tf hb4) | with_reducible (replace hb4 := nb_bf hb4) | skip
  refine S_off rfl rfl ?_
  refine S_val (Y_pickF rfl rfl) ?_
  refine Smv rfl ?_
  refine S_off rfl rfl ?_
  refine S_off rfl rfl ?_
  refine S_off rfl rfl ?_
  refine S_val (Y_pickF rfl rfl) ?_
  refine Sas rfl ?_
  refine S_nl rfl rfl ?_
  refine th_n (hK18 _ _ ?_)
  clear hK18 K18
  refine wp_ret ?_
  refine ib_r ?_
  refine th_r ?_
  clear hK4 K4
  refine ret_r1 rfl rfl ?_
  exact ⟨by first | exact cvB_f (by unfold cvP; dsimp only; omega) | exact cvB_d (by unfold cvP; dsimp only; omega) | exact cvB_t (by unfold cvP; dsimp only; omega), G⟩
 replace hb3 := nb_tf hb3
 refine wp_seq_k fun K19 hK19 => ?_
 refine Sb 75 rfl ?_
 refine S_val (Y_eql rfl rfl) ?_
 refine Sas rfl ?_
 refine S_nl rfl rfl ?_
 refine th_n (hK19 _ _ ?_)
 clear hK19 K19
 refine S_if rfl (fun hb4 => ?_) (fun hb4 => ?_)
 ·
  replace hb4 := nb_tt hb4
  refine wp_seq_k fun K20 hK20 => ?_
  refine Sb 75 rfl ?_
  refine Smv rfl ?_
  refine Smv rfl ?_
  refine S_g 41 rfl (fun hb5 => ?_) (fun hb5 => ?_)
  ·
   first | with_reducible (replace hb5 := nb_nt hb5) | with_reducible (replace hb5 := nb_tt hb5) | with_reducible (replace hb5 := nb_bt hb5) | skip
   refine S_on rfl rfl ?_
   refine Smv rfl ?_
   refine S_val (Y_pickT rfl rfl) ?_
   refine Smv rfl ?_
   refine S_g 44 rfl (fun hb6 => ?_) (fun hb6 => ?_)
   ·
    first | with_reducible (replace hb6 := nb_nt hb6) | with_reducible (replace hb6 := nb_tt hb6) | with_reducible (replace hb6 := nb_bt hb6) | skip
    refine S_on rfl rfl ?_
    refine S_val (Y_field U104 rfl fz104_3 (by decide) rfl) ?_
    refine S_on rfl rfl ?_
    refine S_val (Y_load U3 rfl rfl (B1.at (by rfl))) ?_
    refine S_on rfl rfl ?_
    refine S_val (Y_eql rfl rfl) ?_
    refine S_val (Y_pickT rfl rfl) ?_
    refine Sas rfl ?_
    refine S_nl rfl rfl ?_
    refine th_n (hK20 _ _ ?_)
    clear hK20 K20
    refine wp_ret ?_
    refine ib_r ?_
    refine th_r ?_
    clear hK4 K4
    refine ret_r1 rfl rfl ?_
    exact ⟨by first | exact cvB_f (by unfold cvP; dsimp only; omega) | exact cvB_d (by unfold cvP; dsimp only; omega) | exact cvB_t (by unfold cvP; dsimp only; omega), G⟩
   first | with_reducible (replace hb6 := nb_nf hb6) | with_reducible (replace hb6 := nb_tf hb6) | with_reducible (replace hb6 := nb_bf hb6) | skip
   refine S_off rfl rfl ?_
   refine S_off rfl rfl ?_
   refine S_off rfl rfl ?_
   refine S_val (Y_pickF rfl rfl) ?_
   refine Sas rfl ?_
   refine S_nl rfl rfl ?_
   refine th_n (hK20 _ _ ?_)
   clear hK20 K20
   refine wp_ret ?_
   refine ib_r ?_
   refine th_r ?_
   clear hK4 K4
   refine ret_r1 rfl rfl ?_
   exact ⟨by first | exact cvB_f (by unfold cvP; dsimp only; omega) | exact cvB_d (by unfold cvP; dsimp only; omega) | exact cvB_t (by unfold cvP; dsimp only; omega), G⟩
  first | with_reducible (replace hb5 := nb_nf hb5) | with_reducible (replace hb5 := nb_tf hb5) | with_reducible (replace hb5 := nb_bf hb5) | skip
  refine S_off rfl rfl ?_
  refine S_val (Y_pickF rfl rfl) ?_
  refine Smv rfl ?_
  refine S_off rfl rfl ?_
  refine S_off rfl rfl ?_
  refine S_off rfl rfl ?_
  refine S_val (Y_pickF rfl rfl) ?_
  refine Sas rfl ?_
  refine S_nl rfl rfl ?_
  refine th_n (hK20 _ _ ?_)
  clear hK20 K20
  refine wp_ret ?_
  refine ib_r ?_
  refine th_r ?_
  clear hK4 K4
  refine ret_r1 rfl rfl ?_
  exact ⟨by first | exact cvB_f (by unfold cvP; dsimp only; omega) | exact cvB_d (by unfold cvP; dsimp only; omega) | exact cvB_t (by unfold cvP; dsimp only; omega), G⟩
 replace hb4 := nb_tf hb4
 refine wp_seq_k fun K21 hK21 => ?_
 refine Sb 75 rfl ?_
 refine S_val (Y_eql rfl rfl) ?_
 refine Sas rfl ?_
 refine S_nl rfl rfl ?_
 refine th_n (hK21 _ _ ?_)
 clear hK21 K21
 refine S_if rfl (fun hb5 => ?_) (fun hb5 => ?_)
 ·
  replace hb5 := nb_tt hb5
  refine wp_seq_k fun K22 hK22 => ?_
  refine Sb 75 rfl ?_
  refine Smv rfl ?_
  refine Smv rfl ?_
  refine S_g 52 rfl (fun hb6 => ?_) (fun hb6 => ?_)
  ·
   first | with_reducible (replace hb6 := nb_nt hb6) | with_reducible (replace hb6 := nb_tt hb6) | with_reducible (replace hb6 := nb_bt hb6) | skip
   refine S_on rfl rfl ?_
   refine S_val (Y_field U104 rfl fz104_2 (by decide) rfl) ?_
   refine S_on rfl rfl ?_
   refine S_val (Y_load U3 rfl rfl (B1.at (by rfl))) ?_
   refine S_on rfl rfl ?_
   refine S_val (Y_eql rfl rfl) ?_
   refine S_val (Y_pickT rfl rfl) ?_
   refine Smv rfl ?_
   refine S_g 57 rfl (fun hb7 => ?_) (fun hb7 => ?_)
   ·
    first | with_reducible (replace hb7 := nb_nt hb7) | with_reducible (replace hb7 := nb_tt hb7) | with_reducible (replace hb7 := nb_bt hb7) | skip
    refine S_on rfl rfl ?_
    refine S_val (Y_field U104 rfl fz104_3 (by decide) rfl) ?_
    refine S_on rfl rfl ?_
    refine S_val (Y_load U3 rfl rfl (B1.at (by rfl))) ?_
    refine S_on rfl rfl ?_
    refine S_val (Y_eql rfl rfl) ?_
    refine S_val (Y_pickT rfl rfl) ?_
    refine Sas rfl ?_
    refine S_nl rfl rfl ?_
    refine th_n (hK22 _ _ ?_)
    clear hK22 K22
    refine wp_ret ?_
    refine ib_r ?_
    refine th_r ?_
    clear hK4 K4
    refine ret_r1 rfl rfl ?_
    exact ⟨by first | exact cvB_f (by unfold cvP; dsimp only; omega) | exact cvB_d (by unfold cvP; dsimp only; omega) | exact cvB_t (by unfold cvP; dsimp only; omega), G⟩
   first | with_reducible (replace hb7 := nb_nf hb7) | with_reducible (replace hb7 := nb_tf hb7) | with_reducible (replace hb7 := nb_bf hb7) | skip
   refine S_off rfl rfl ?_
   refine S_off rfl rfl ?_
   refine S_off rfl rfl ?_
   refine S_val (Y_pickF rfl rfl) ?_
   refine Sas rfl ?_
   refine S_nl rfl rfl ?_
   refine th_n (hK22 _ _ ?_)
   clear hK22 K22
   refine wp_ret ?_
   refine ib_r ?_
   refine th_r ?_
   clear hK4 K4
   refine ret_r1 rfl rfl ?_
   exact ⟨by first | exact cvB_f (by unfold cvP; dsimp only; omega) | exact cvB_d (by unfold cvP; dsimp only; omega) | exact cvB_t (by unfold cvP; dsimp only; omega), G⟩
  first | with_reducible (replace hb6 := nb_nf hb6) | with_reducible (replace hb6 := nb_tf hb6) | with_reducible (replace hb6 := nb_bf hb6) | skip
  refine S_off rfl rfl ?_
  refine S_off rfl rfl ?_
  refine S_off rfl rfl ?_
  refine S_val (Y_pickF rfl rfl) ?_
  refine Smv rfl ?_
  refine S_off rfl rfl ?_
  refine S_off rfl rfl ?_
  refine S_off rfl rfl ?_
  refine S_val (Y_pickF rfl rfl) ?_
  refine Sas rfl ?_
  refine S_nl rfl rfl ?_
  refine th_n (hK22 _ _ ?_)
  clear hK22 K22
  refine wp_ret ?_
  refine ib_r ?_
  refine th_r ?_
  clear hK4 K4
  refine ret_r1 rfl rfl ?_
  exact ⟨by first | exact cvB_f (by unfold cvP; dsimp only; omega) | exact cvB_d (by unfold cvP; dsimp only; omega) | exact cvB_t (by unfold cvP; dsimp only; omega), G⟩
 replace hb5 := nb_tf hb5
 refine wp_seq_k fun K23 hK23 => ?_
 refine Sb 75 rfl ?_
 refine S_val (Y_eql rfl rfl) ?_
 refine Sas rfl ?_
 refine S_nl rfl rfl ?_
 refine th_n (hK23 _ _ ?_)
 clear hK23 K23
 refine S_if rfl (fun hb6 => ?_) (fun hb6 => ?_)
 ·
  replace hb6 := nb_tt hb6
  refine wp_seq_k fun K24 hK24 => ?_
  refine Sb 75 rfl ?_
  refine Smv rfl ?_
  refine Smv rfl ?_
  refine S_g 65 rfl (fun hb7 => ?_) (fun hb7 => ?_)
  ·
   first | with_reducible (replace hb7 := nb_nt hb7) | with_reducible (replace hb7 := nb_tt hb7) | with_reducible (replace hb7 := nb_bt hb7) | skip
   refine S_on rfl rfl ?_
   refine S_val (Y_field U104 rfl fz104_2 (by decide) rfl) ?_
   refine S_on rfl rfl ?_
   refine S_val (Y_load U3 rfl rfl (B1.at (by rfl))) ?_
   refine S_on rfl rfl ?_
   refine S_call rfl en45 (spec_l1In_c _ _ _ _) ?_
   rintro v w' ⟨rfl, rfl⟩
   refine S_val (Y_pickT rfl rfl) ?_
   refine Smv rfl ?_
   refine S_g 70 rfl (fun hb8 => ?_) (fun hb8 => ?_)
   ·
    first | with_reducible (replace hb8 := nb_nt hb8) | with_reducible (replace hb8 := nb_tt hb8) | with_reducible (replace hb8 := nb_bt hb8) | skip
    refine S_on rfl rfl ?_
    refine S_val (Y_field U104 rfl fz104_3 (by decide) rfl) ?_
    refine S_on rfl rfl ?_
    refine S_val (Y_load U3 rfl rfl (B1.at (by rfl))) ?_
    refine S_on rfl rfl ?_
    refine S_val (Y_eql rfl rfl) ?_
    refine S_val (Y_pickT rfl rfl) ?_
    refine Sas rfl ?_
    refine S_nl rfl rfl ?_
    refine th_n (hK24 _ _ ?_)
    clear hK24 K24
    refine wp_ret ?_
    refine ib_r ?_
    refine th_r ?_
    clear hK4 K4
    refine ret_r1 rfl rfl ?_
    exact ⟨by first | exact cvB_f (by unfold cvP; dsimp only; omega) | exact cvB_d (by unfold cvP; dsimp only; omega) | exact cvB_t (by unfold cvP; dsimp only; omega), G⟩
   first | with_reducible (replace hb8 := nb_nf hb8) | with_reducible (replace hb8 := nb_tf hb8) | with_reducible (replace hb8 := nb_bf hb8) | skip
   refine S_off rfl rfl ?_
   refine S_off rfl rfl ?_
   refine S_off rfl rfl ?_
   refine S_val (Y_pickF rfl rfl) ?_
   refine Sas rfl ?_
   refine S_nl rfl rfl ?_
   refine th_n (hK24 _ _ ?_)
   clear hK24 K24
   refine wp_ret ?_
   refine ib_r ?_
   refine th_r ?_
   clear hK4 K4
   refine ret_r1 rfl rfl ?_
   exact ⟨by first | exact cvB_f (by unfold cvP; dsimp only; omega) | exact cvB_d (by unfold cvP; dsimp only; omega) | exact cvB_t (by unfold cvP; dsimp only; omega), G⟩
  first | with_reducible (replace hb7 := nb_nf hb7) | with_reducible (replace hb7 := nb_tf hb7) | with_reducible (replace hb7 := nb_bf hb7) | skip
  refine S_off rfl rfl ?_
  refine S_off rfl rfl ?_
  refine S_off rfl rfl ?_
  refine S_val (Y_pickF rfl rfl) ?_
  refine Smv rfl ?_
  refine S_off rfl rfl ?_
  refine S_off rfl rfl ?_
  refine S_off rfl rfl ?_
  refine S_val (Y_pickF rfl rfl) ?_
  refine Sas rfl ?_
  refine S_nl rfl rfl ?_
  refine th_n (hK24 _ _ ?_)
  clear hK24 K24
  refine wp_ret ?_
  refine ib_r ?_
  refine th_r ?_
  clear hK4 K4
  refine ret_r1 rfl rfl ?_
  exact ⟨by first | exact cvB_f (by unfold cvP; dsimp only; omega) | exact cvB_d (by unfold cvP; dsimp only; omega) | exact cvB_t (by unfold cvP; dsimp only; omega), G⟩
 replace hb6 := nb_tf hb6
 refine wp_skip ?_
 refine ib_n ?_
 refine th_n (hK4 _ _ ?_)
 clear hK4 K4
 refine wp_seq_k fun K25 hK25 => ?_
 refine Sb 75 rfl ?_
 refine Sas rfl ?_
 refine S_nl rfl rfl ?_
 refine th_n (hK25 _ _ ?_)
 clear hK25 K25
 refine wp_ret ?_
 refine ret_r1 rfl rfl ?_
 exact ⟨by first | exact cvB_f (by unfold cvP; dsimp only; omega) | exact cvB_d (by unfold cvP; dsimp only; omega) | exact cvB_t (by unfold cvP; dsimp only; omega), G⟩
theorem csB_bad {l : List LCmd} {k : Nat} (hk : k < l.length) (h : cvB l[k] = false) : Value.bool false = .bool (csB l) := by
  have := all_false hk h
  simp [csB, this]
theorem csB_ok {l : List LCmd} (h : l.all cvB = true) : Value.bool (decide (l.length ≤ 40)) = .bool (csB l) := by
  unfold csB
  rw [h]
  simp
set_option maxHeartbeats 400000 in
set_option maxRecDepth 20000 in
theorem spec_CommandsValid_c (Pr : Nat → Prop) (A : Option Addr) (xs : List LCmd) (c : Nat) (w : World) (hA : RO Pr w A xs) (hx : xs.length ≤ 1048576) :
    Calls Try.prog 72 #[.slice A xs.length c] w (Ret fun v w' => v = .bool (csB xs) ∧ Grow w w') := by
 refine enter Try.func72 rfl Try.ntmps72 (L := [_,_,_,_,_,_,_,_,_,_,_,_,_,_,_,_,_,_,_]) rfl ?_
 have G := Mod.refl No w
 have hA0 := hA
 refine wp_seq_k fun K1 hK1 => ?_
 refine Sb 19 rfl ?_
 refine Sas rfl ?_
 refine S_nl rfl rfl ?_
 refine th_n (hK1 _ _ ?_)
 clear hK1 K1
 refine wp_seq_k fun K2 hK2 => ?_
 refine wp_seq_k fun K3 hK3 => ?_
 refine Sb 19 rfl ?_
 refine Sas rfl ?_
 refine S_nl rfl rfl ?_
 refine th_n (hK3 _ _ ?_)
 clear hK3 K3
 refine wp_block ?_
 go_loopw [3] (fun u3 wr => (∃ k : Nat, u3 = .int .i64 k ∧ k ≤ xs.length ∧ (xs.take k).all cvB = true) ∧ Mod No w wr) (fun u3 wr => xs.length - (intOf u3).toNat)
 case atStart =>
  refine ⟨?_, Mod.refl _ _⟩
  exact ⟨0, rfl, by omega, by simp⟩
 case round =>
  obtain ⟨w1, rfl⟩ : ∃ x : World, x = wr := ⟨_, rfl⟩
  obtain ⟨hrel, g1⟩ := hrel
  replace hA := hA.grow g1
  replace G := G.grow g1
  have zg1 := g1.size
  obtain ⟨k, rfl, hk, hs⟩ := hrel
  have GL1 := g1
  refine wp_seq_k fun K4 hK4 => ?_
  refine wp_seq_k fun K5 hK5 => ?_
  refine Sb 19 rfl ?_
  refine Smv rfl ?_
  refine Smv rfl ?_
  refine S_val (Y_len U78 rfl) ?_
  refine S_val (Y_lss rfl rfl) ?_
  refine S_nl rfl rfl ?_
  refine th_n (hK5 _ _ ?_)
  clear hK5 K5
  refine S_if rfl (fun hb1 => ?_) (fun hb1 => ?_)
  ·
   replace hb1 := nb_tt hb1
   have hk1 : k < xs.length := by omega
   obtain ⟨g2, o2, rfl, hp2, cc20⟩ := hA0.cell hk1
   have cc2 := cc20.grow G
   refine wp_skip ?_
   refine th_n (hK4 _ _ ?_)
   clear hK4 K4
   refine wp_seq_k fun K6 hK6 => ?_
   refine wp_block ?_
   refine wp_seq_k fun K7 hK7 => ?_
   refine Sb 19 rfl ?_
   refine Smv rfl ?_
   refine Smv rfl ?_
   refine S_val (Y_index U78 sz104 rfl rfl (by first | assumption | omega)) ?_
   refine S_val (Y_loadS U104 rfl sz104 rfl (by first | assumption | skip)) ?_
   refine S_call rfl en81 (spec_CommandValid_c _ _ _ _ _) ?_
   rintro v2 w2 ⟨rfl, g2⟩
   replace hA := hA.grow g2
   replace cc2 := cc2.grow g2
   replace G := G.grow g2
   replace GL1 := GL1.grow g2
   have zg2 := g2.size
   refine S_val (Y_not rfl) ?_
   refine S_nl rfl rfl ?_
   refine th_n (hK7 _ _ ?_)
   clear hK7 K7
   refine S_if rfl (fun hb2 => ?_) (fun hb2 => ?_)
   ·
    first | with_reducible (replace hb2 := nb_nt hb2) | with_reducible (replace hb2 := nb_tt hb2) | with_reducible (replace hb2 := nb_bt hb2) | skip
    refine wp_seq_k fun K8 hK8 => ?_
    refine Sb 19 rfl ?_
    refine Sas rfl ?_
    refine S_nl rfl rfl ?_
    refine th_n (hK8 _ _ ?_)
    clear hK8 K8
    refine wp_ret ?_
    refine ib_r ?_
    refine th_r ?_
    try clear GL1
    refine th_r ?_
    refine ib_r ?_
    refine th_r ?_
    clear hK6 K6 hK2 K2
    refine ret_r1 rfl rfl ?_
    exact ⟨csB_bad hk1 hb2, G⟩
   first | with_reducible (replace hb2 := nb_nf hb2) | with_reducible (replace hb2 := nb_tf hb2) | with_reducible (replace hb2 := nb_bf hb2) | skip
   refine wp_skip ?_
   refine ib_n ?_
   refine th_n (hK6 _ _ ?_)
   clear hK6 K6
   refine Sb 19 rfl ?_
   refine Smv rfl ?_
   refine S_val (Y_inc rfl rfl (by omega)) ?_
   refine Sas rfl ?_
   refine S_nl rfl rfl ?_
   refine th_n ?_
   go_roundw
   case rel =>
    refine ⟨?_, GL1⟩
    exact ⟨k + 1, rfl, by omega, all_take_succ (by omega) hs hb2⟩
   case measure =>
    exact dec_nat (by omega)
  replace hb1 := nb_tf hb1
  refine wp_exit ?_
  refine th_x ?_
  try clear GL1
  refine th_x ?_
  refine ib_e ?_
  refine th_n (hK2 _ _ ?_)
  clear hK4 K4 hK2 K2
  refine wp_seq_k fun K9 hK9 => ?_
  refine Sb 19 rfl ?_
  refine Smv rfl ?_
  refine S_val (Y_len U78 rfl) ?_
  refine S_val (Y_leq rfl rfl) ?_
  refine Sas rfl ?_
  refine S_nl rfl rfl ?_
  refine th_n (hK9 _ _ ?_)
  clear hK9 K9
  refine wp_ret ?_
  refine ret_r1 rfl rfl ?_
  rw [← csB_ok (all_of_take (by omega) hs)]
  exact ⟨bI (by omega), G⟩
end
/-! WalkW -/
section
open Go Go.RowKit
attribute [local irreducible] wpList wpAnyH Code.wp dOp
set_option maxHeartbeats 400000 in
set_option maxRecDepth 20000 in
theorem spec_l8Place_c (Pr : Nat → Prop) (A B : Option Addr) (h : LH) (c d n : Nat) (r pc : Int) (w : World) (hA : RC Pr w A h.cells) (hB : R1 Pr w B (ints h.roots)) (hz : hsize h ≤ 1048576) (va : Valid h) (hn : n < h.roots.length) (hr : h.roots[n] = r) :
    Calls Try.prog 86 #[.agg #[.slice A h.cells.length c, .slice B h.roots.length d], .int .i64 r, .int .i64 pc] w (Ret fun v w' => v = .bool (placeB h (n : Int) pc) ∧ Grow w w') := by
 have hz1 := hsize_cells h
 have hz2 := hsize_roots h
 refine enter Try.func86 rfl Try.ntmps86 (L := [_,_,_,_,_,_,_,_,_,_,_,_,_,_,_,_,_,_,_,_]) rfl ?_
 have G := Mod.refl No w
 have hA0 := hA
 have hB0 := hB
 refine wp_seq_k fun K1 hK1 => ?_
 refine Sb 20 rfl ?_
 refine S_box (cs := [_, _]) rfl rfl ?_
 intro b1 w1 fb1 g1 B1
 have lb1 := B1.lt
 replace hA := hA.grow g1
 replace hB := hB.grow g1
 replace G := G.grow g1
 have zg1 := g1.size
 refine Sas rfl ?_
 refine S_nl rfl rfl ?_
 refine th_n (hK1 _ _ ?_)
 clear hK1 K1
 refine wp_seq_k fun K2 hK2 => ?_
 refine Sb 20 rfl ?_
 refine Smv rfl ?_
 refine S_val (Y_geq rfl rfl) ?_
 refine Smv rfl ?_
 refine S_g 9 rfl (fun hb1 => ?_) (fun hb1 => ?_)
 ·
  replace hb1 := nb_tt hb1
  obtain ⟨m, hm, hmN⟩ := valid_root va hn (by omega)
  obtain ⟨g2, o2, E2, d2, rfl, hp2, cc20, _⟩ := hA0.cell hmN
  have cc2 := cc20.grow G
  have hpl := placeB_pos (c := pc) hn hm hmN
  rw [hr] at hm
  subst hm
  refine S_on rfl rfl ?_
  refine Smv rfl ?_
  refine S_on rfl rfl ?_
  refine S_val (Y_field U26 rfl fz26_0 (by decide) rfl) ?_
  refine S_on rfl rfl ?_
  refine S_val (Y_load U23 rfl rfl (B1.at (by rfl))) ?_
  refine S_on rfl rfl ?_
  refine Smv rfl ?_
  refine S_on rfl rfl ?_
  refine S_val (Y_index U23 sz50 rfl rfl (by first | assumption | omega)) ?_
  refine S_on rfl rfl ?_
  refine S_val (Y_field U50 rfl fz50_2 (by decide) rfl) ?_
  refine S_on rfl rfl ?_
  refine S_val (Y_load U24 rfl rfl (by first | assumption | exact cc2.at (by rfl) | exact B1.at (by rfl))) ?_
  refine S_on rfl rfl ?_
  refine S_val (Y_len U24 rfl) ?_
  refine S_on rfl rfl ?_
  refine S_val (Y_lss rfl rfl) ?_
  refine S_val (Y_pickT rfl rfl) ?_
  refine Sas rfl ?_
  refine S_nl rfl rfl ?_
  refine th_n (hK2 _ _ ?_)
  clear hK2 K2
  refine wp_ret ?_
  refine ret_r1 rfl rfl ?_
  exact ⟨by rw [hpl], G⟩
 replace hb1 := nb_tf hb1
 refine S_off rfl rfl ?_
 refine S_off rfl rfl ?_
 refine S_off rfl rfl ?_
 refine S_off rfl rfl ?_
 refine S_off rfl rfl ?_
 refine S_off rfl rfl ?_
 refine S_off rfl rfl ?_
 refine S_off rfl rfl ?_
 refine S_off rfl rfl ?_
 refine S_val (Y_pickF rfl rfl) ?_
 refine Sas rfl ?_
 refine S_nl rfl rfl ?_
 refine th_n (hK2 _ _ ?_)
 clear hK2 K2
 refine wp_ret ?_
 refine ret_r1 rfl rfl ?_
 exact ⟨by rw [placeB_neg hn (by omega)], G⟩
set_option maxHeartbeats 400000 in
set_option maxRecDepth 20000 in
theorem spec_CommandPossible_c (Pr : Nat → Prop) (A B : Option Addr) (h : LH) (c d : Nat) (oop oa ob oc : Int) (w : World) (hA : RC Pr w A h.cells) (hB : R1 Pr w B (ints h.roots)) (hz : hsize h ≤ 1048576) :
    Calls Try.prog 83 #[.agg #[.slice A h.cells.length c, .slice B h.roots.length d], .agg #[.int .i64 oop, .int .i64 oa, .int .i64 ob, .int .i64 oc]] w (Ret fun v w' => v = .bool (possB h ⟨oop, oa, ob, oc⟩) ∧ Grow w w') := by
 have hz1 := hsize_cells h
 have hz2 := hsize_roots h
 refine enter Try.func83 rfl Try.ntmps83 (L := [_,_,_,_,_,_,_,_,_,_,_,_,_,_,_,_,_,_,_,_,_,_,_,_,_,_,_,_,_,_,_,_,_,_,_,_,_,_,_,_,_,_,_,_,_,_,_,_]) rfl ?_
 have G := Mod.refl No w
 have hA0 := hA
 have hB0 := hB
 refine wp_seq_k fun K1 hK1 => ?_
 refine Sb 48 rfl ?_
 refine S_box (cs := [_, _]) rfl rfl ?_
 intro b1 w1 fb1 g1 B1
 have lb1 := B1.lt
 replace hA := hA.grow g1
 replace hB := hB.grow g1
 replace G := G.grow g1
 have zg1 := g1.size
 refine S_box (cs := [_, _, _, _]) rfl rfl ?_
 intro b2 w2 fb2 g2 B2
 have lb2 := B2.lt
 replace hA := hA.grow g2
 replace hB := hB.grow g2
 replace G := G.grow g2
 replace B1 := B1.grow g2
 have zg2 := g2.size
 refine Sas rfl ?_
 refine S_nl rfl rfl ?_
 refine th_n (hK1 _ _ ?_)
 clear hK1 K1
 refine wp_seq_k fun K2 hK2 => ?_
 refine wp_seq_k fun K3 hK3 => ?_
 refine Sb 48 rfl ?_
 refine S_val (Y_loadS U26 rfl sz26 rfl (B1.row (by rfl))) ?_
 refine S_call rfl en44 (spec_HeapValid_c _ _ _ _ _ _ _ (by assumption) (by assumption) (by omega)) ?_
 rintro v3 w3 ⟨rfl, g3⟩
 replace hA := hA.grow g3
 replace hB := hB.grow g3
 replace G := G.grow g3
 replace B1 := B1.grow g3
 replace B2 := B2.grow g3
 have zg3 := g3.size
 refine S_val (Y_not rfl) ?_
 refine Smv rfl ?_
 refine S_g 8 rfl (fun hb1 => ?_) (fun hb1 => ?_)
 ·
  first | with_reducible (replace hb1 := nb_nt hb1) | with_reducible (replace hb1 := nb_tt hb1) | with_reducible (replace hb1 := nb_bt hb1) | skip
  refine S_off rfl rfl ?_
  refine S_off rfl rfl ?_
  refine S_off rfl rfl ?_
  refine S_val (Y_pickT rfl rfl) ?_
  refine S_nl rfl rfl ?_
  refine th_n (hK3 _ _ ?_)
  clear hK3 K3
  refine S_ifT rfl ?_
  refine wp_seq_k fun K4 hK4 => ?_
  refine Sb 48 rfl ?_
  refine Sas rfl ?_
  refine S_nl rfl rfl ?_
  refine th_n (hK4 _ _ ?_)
  clear hK4 K4
  refine wp_ret ?_
  refine th_r ?_
  clear hK2 K2
  refine ret_r1 rfl rfl ?_
  exact ⟨by rw [possB_f1 hb1], G⟩
 first | with_reducible (replace hb1 := nb_nf hb1) | with_reducible (replace hb1 := nb_tf hb1) | with_reducible (replace hb1 := nb_bf hb1) | skip
 have va := valid_iff.1 hb1
 have hr4 := va.roots4
 refine S_on rfl rfl ?_
 refine S_val (Y_loadS U104 rfl sz104 rfl (B2.row (by rfl))) ?_
 refine S_on rfl rfl ?_
 refine S_call rfl en81 (spec_CommandValid_c _ _ _ _ _) ?_
 rintro v4 w4 ⟨rfl, g4⟩
 replace hA := hA.grow g4
 replace hB := hB.grow g4
 replace G := G.grow g4
 replace B1 := B1.grow g4
 replace B2 := B2.grow g4
 have zg4 := g4.size
 refine S_on rfl rfl ?_
 refine S_val (Y_not rfl) ?_
 refine S_val (Y_pickF rfl rfl) ?_
 refine S_nl rfl rfl ?_
 refine th_n (hK3 _ _ ?_)
 clear hK3 K3
 refine S_if rfl (fun hb2 => ?_) (fun hb2 => ?_)
 ·
  first | with_reducible (replace hb2 := nb_nt hb2) | with_reducible (replace hb2 := nb_tt hb2) | with_reducible (replace hb2 := nb_bt hb2) | skip
  refine wp_seq_k fun K5 hK5 => ?_
  refine Sb 48 rfl ?_
  refine Sas rfl ?_
  refine S_nl rfl rfl ?_
  refine th_n (hK5 _ _ ?_)
  clear hK5 K5
  refine wp_ret ?_
  refine th_r ?_
  clear hK2 K2
  refine ret_r1 rfl rfl ?_
  exact ⟨by rw [possB_f2 hb2], G⟩
 first | with_reducible (replace hb2 := nb_nf hb2) | with_reducible (replace hb2 := nb_tf hb2) | with_reducible (replace hb2 := nb_bf hb2) | skip
 have hcp := cvB_d0 hb2
 have hcq := hcp
 unfold cvP at hcq
 dsimp only at hcq
 refine wp_skip ?_
 refine th_n (hK2 _ _ ?_)
 clear hK2 K2
 refine wp_seq_k fun K6 hK6 => ?_
 refine wp_seq_k fun K7 hK7 => ?_
 refine Sb 48 rfl ?_
 refine S_val (Y_field U104 rfl fz104_0 (by decide) rfl) ?_
 refine S_val (Y_load U3 rfl rfl (B2.at (by rfl))) ?_
 refine S_nl rfl rfl ?_
 refine th_n (hK7 _ _ ?_)
 clear hK7 K7
 refine wp_block ?_
 refine wp_seq_k fun K8 hK8 => ?_
 refine Sb 48 rfl ?_
 refine S_val (Y_eql rfl rfl) ?_
 refine Sas rfl ?_
 refine S_nl rfl rfl ?_
 refine th_n (hK8 _ _ ?_)
 clear hK8 K8
 refine S_if rfl (fun hb3 => ?_) (fun hb3 => ?_)
 ·
  replace hb3 := nb_tt hb3
  obtain ⟨n, hn⟩ := Int.eq_ofNat_of_zero_le (show 0 ≤ ob by omega)
  subst hn
  have hn4 : n < h.roots.length := by omega
  refine wp_seq_k fun K9 hK9 => ?_
  refine D_start 11 48 (fun w => Mod (No) w) follows rfl rfl ?_
  intro w5 g5
  replace hA := hA.grow g5
  replace hB := hB.grow g5
  replace G := G.grow g5
  replace B1 := B1.grow g5
  replace B2 := B2.grow g5
  have zg5 := g5.size
  have GS5 := Mod.refl (No) w5
  obtain ⟨g1, o1, e1, hp1, hc1⟩ := hB.int hn4
  cases e1
  have B1d5 := B1
  have B2d5 := B2
  refine Dq (i := 0) rfl GS5 (fun _ hs => Y_loadS U26 rfl sz26 rfl (by first | exact hs.cells0 (B1.row (by rfl)))) ?_
  refine Dq (i := 1) rfl GS5 (fun _ _ => Y_field U26 rfl fz26_1 (by decide) rfl) ?_
  refine Dq (i := 2) rfl GS5 (fun _ hs => Y_load U24 rfl rfl (hs.cell0 (B1.at (by rfl)))) ?_
  refine Dq (i := 3) rfl GS5 (fun _ _ => Y_field U104 rfl fz104_2 (by decide) rfl) ?_
  refine Dq (i := 4) rfl GS5 (fun _ hs => Y_load U3 rfl rfl (hs.cell0 (B2.at (by rfl)))) ?_
  refine Dq (i := 5) rfl GS5 (fun _ _ => Y_index U24 sz3 rfl rfl (by first | assumption | omega)) ?_
  refine Dq (i := 6) rfl GS5 (fun _ hs => Y_load U3 rfl rfl (by first | exact hs.cell0 (by assumption) | exact hs.cell0 (B1.at (by rfl)) | exact hs.cell0 (B2.at (by rfl)))) ?_
  refine Dq (i := 7) rfl GS5 (fun _ _ => Y_field U104 rfl fz104_3 (by decide) rfl) ?_
  refine Dq (i := 8) rfl GS5 (fun _ hs => Y_load U3 rfl rfl (hs.cell0 (B2.at (by rfl)))) ?_
  refine D_1 (i := 9) (by kernel_rfl) ?_
  refine E_call rfl rfl en86 (spec_l8Place_c _ _ _ h _ _ n _ _ _ hA hB (by omega) va hn4 rfl) ?_
  rintro v6 w6 ⟨rfl, g6⟩
  replace hA := hA.grow g6
  replace hB := hB.grow g6
  replace G := G.grow g6
  replace GS5 := GS5.grow g6
  replace B1 := B1.grow g6
  replace B2 := B2.grow g6
  have zg6 := g6.size
  refine ⟨GS5, ?_⟩
  refine Dq (i := 10) rfl GS5 (fun _ _ => Y_assign rfl) ?_
  refine D_en (by kernel_rfl) rfl rfl ?_
  refine th_n (hK9 _ _ ?_)
  clear hK9 K9
  refine wp_ret ?_
  refine ib_r ?_
  refine th_r ?_
  clear hK6 K6
  refine ret_r1 rfl rfl ?_
  exact ⟨by rw [possB_t hb1 hb2]; simp [effectB, hb3], G⟩
 replace hb3 := nb_tf hb3
 refine wp_seq_k fun K10 hK10 => ?_
 refine Sb 48 rfl ?_
 refine S_val (Y_eql rfl rfl) ?_
 refine Sas rfl ?_
 refine S_nl rfl rfl ?_
 refine th_n (hK10 _ _ ?_)
 clear hK10 K10
 refine S_if rfl (fun hb4 => ?_) (fun hb4 => ?_)
 ·
  replace hb4 := nb_tt hb4
  obtain ⟨n, hn⟩ := Int.eq_ofNat_of_zero_le (show 0 ≤ oa by omega)
  subst hn
  have hn4 : n < h.roots.length := by omega
  refine wp_seq_k fun K11 hK11 => ?_
  refine D_start 11 48 (fun w => Mod (No) w) follows rfl rfl ?_
  intro w7 g7
  replace hA := hA.grow g7
  replace hB := hB.grow g7
  replace G := G.grow g7
  replace B1 := B1.grow g7
  replace B2 := B2.grow g7
  have zg7 := g7.size
  have GS7 := Mod.refl (No) w7
  obtain ⟨g1, o1, e1, hp1, hc1⟩ := hB.int hn4
  cases e1
  have B1d7 := B1
  have B2d7 := B2
  refine Dq (i := 0) rfl GS7 (fun _ hs => Y_loadS U26 rfl sz26 rfl (by first | exact hs.cells0 (B1.row (by rfl)))) ?_
  refine Dq (i := 1) rfl GS7 (fun _ _ => Y_field U26 rfl fz26_1 (by decide) rfl) ?_
  refine Dq (i := 2) rfl GS7 (fun _ hs => Y_load U24 rfl rfl (hs.cell0 (B1.at (by rfl)))) ?_
  refine Dq (i := 3) rfl GS7 (fun _ _ => Y_field U104 rfl fz104_1 (by decide) rfl) ?_
  refine Dq (i := 4) rfl GS7 (fun _ hs => Y_load U3 rfl rfl (hs.cell0 (B2.at (by rfl)))) ?_
  refine Dq (i := 5) rfl GS7 (fun _ _ => Y_index U24 sz3 rfl rfl (by first | assumption | omega)) ?_
  refine Dq (i := 6) rfl GS7 (fun _ hs => Y_load U3 rfl rfl (by first | exact hs.cell0 (by assumption) | exact hs.cell0 (B1.at (by rfl)) | exact hs.cell0 (B2.at (by rfl)))) ?_
  refine Dq (i := 7) rfl GS7 (fun _ _ => Y_field U104 rfl fz104_3 (by decide) rfl) ?_
  refine Dq (i := 8) rfl GS7 (fun _ hs => Y_load U3 rfl rfl (hs.cell0 (B2.at (by rfl)))) ?_
  refine D_1 (i := 9) (by kernel_rfl) ?_
  refine E_call rfl rfl en86 (spec_l8Place_c _ _ _ h _ _ n _ _ _ hA hB (by omega) va hn4 rfl) ?_
  rintro v8 w8 ⟨rfl, g8⟩
  replace hA := hA.grow g8
  replace hB := hB.grow g8
  replace G := G.grow g8
  replace GS7 := GS7.grow g8
  replace B1 := B1.grow g8
  replace B2 := B2.grow g8
  have zg8 := g8.size
  refine ⟨GS7, ?_⟩
  refine Dq (i := 10) rfl GS7 (fun _ _ => Y_assign rfl) ?_
  refine D_en (by kernel_rfl) rfl rfl ?_
  refine th_n (hK11 _ _ ?_)
  clear hK11 K11
  refine wp_ret ?_
  refine ib_r ?_
  refine th_r ?_
  clear hK6 K6
  refine ret_r1 rfl rfl ?_
  exact ⟨by rw [possB_t hb1 hb2]; simp [effectB, hb3, hb4], G⟩
 replace hb4 := nb_tf hb4
 refine wp_seq_k fun K12 hK12 => ?_
 refine Sb 48 rfl ?_
 refine S_val (Y_eql rfl rfl) ?_
 refine Sas rfl ?_
 refine S_nl rfl rfl ?_
 refine th_n (hK12 _ _ ?_)
 clear hK12 K12
 refine S_if rfl (fun hb5 => ?_) (fun hb5 => ?_)
 ·
  replace hb5 := nb_tt hb5
  obtain ⟨n, hn⟩ := Int.eq_ofNat_of_zero_le (show 0 ≤ oa by omega)
  subst hn
  have hn4 : n < h.roots.length := by omega
  obtain ⟨g1, o1, e1, hp1, hc1⟩ := hB.int hn4
  cases e1
  refine wp_seq_k fun K13 hK13 => ?_
  refine Sb 48 rfl ?_
  refine S_val (Y_field U26 rfl fz26_1 (by decide) rfl) ?_
  refine S_val (Y_load U24 rfl rfl (B1.at (by rfl))) ?_
  refine S_val (Y_field U104 rfl fz104_1 (by decide) rfl) ?_
  refine S_val (Y_load U3 rfl rfl (B2.at (by rfl))) ?_
  refine S_val (Y_index U24 sz3 rfl rfl (by first | assumption | omega)) ?_
  refine S_val (Y_load U3 rfl rfl (by first | assumption | exact B1.at (by rfl) | exact B2.at (by rfl))) ?_
  refine S_val (Y_geq rfl rfl) ?_
  refine Sas rfl ?_
  refine S_nl rfl rfl ?_
  refine th_n (hK13 _ _ ?_)
  clear hK13 K13
  refine wp_ret ?_
  refine ib_r ?_
  refine th_r ?_
  clear hK6 K6
  refine ret_r1 rfl rfl ?_
  exact ⟨by rw [possB_t hb1 hb2]; simp [effectB, hb3, hb4, hb5, rootB_at hn4], G⟩
 replace hb5 := nb_tf hb5
 refine wp_skip ?_
 refine ib_n ?_
 refine th_n (hK6 _ _ ?_)
 clear hK6 K6
 refine wp_seq_k fun K14 hK14 => ?_
 refine Sb 48 rfl ?_
 refine Sas rfl ?_
 refine S_nl rfl rfl ?_
 refine th_n (hK14 _ _ ?_)
 clear hK14 K14
 refine wp_ret ?_
 refine ret_r1 rfl rfl ?_
 exact ⟨by rw [possB_t hb1 hb2]; simp [effectB, hb3, hb4, hb5], G⟩
end
/-! WalkO -/
section
open Go Go.RowKit
attribute [local irreducible] wpList wpAnyH Code.wp dOp
def emptyH : LH := ⟨[], List.replicate 4 (-1)⟩
theorem rep_snoc (k : Nat) : List.replicate k (-1 : Int) ++ [-1] = List.replicate (k + 1) (-1) := by simp [List.replicate_succ']
end
end Go.Proofs.Ytdlmjmcddafojaa
