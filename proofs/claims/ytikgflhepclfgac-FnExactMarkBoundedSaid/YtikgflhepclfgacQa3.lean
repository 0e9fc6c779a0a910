/-
  Walks through functions of the program and the reference, and the plain laws behind them: what one claim needs of them.
  Conditions: those that each theorem states.
-/
import Derived.Test.YtikgflhepclfgacQa2
set_option linter.unusedVariables false
set_option linter.unusedSimpArgs false
namespace Go.Proofs.Ytikgflhepclfgac
/-! Stp -/
section
open Go
theorem leadsB_mono {cs cs' : List LC} (h : ∀ n, usedAt cs n = true → usedAt cs' n = true) {r : Int} (hr : leadsB cs r = true) : leadsB cs' r = true := by
  unfold leadsB at *
  by_cases h1 : r = -1
  · simp [h1]
  · simp only [h1, decide_false, Bool.false_or, Bool.and_eq_true, decide_eq_true_eq] at hr ⊢
    exact ⟨hr.1, h _ hr.2⟩
theorem usedAt_set {cs : List LC} {k : Nat} {c : LC} (hc : c.used = true) {n : Nat} (h : usedAt cs n = true) : usedAt (cs.set k c) n = true := by
  have hn := usedAt_lt h
  unfold usedAt at *
  by_cases hk : k = n
  · subst hk
    simp [hn, hc]
  · rw [List.getElem?_set_ne hk]
    exact h
theorem usedAt_app {cs : List LC} {c : LC} {n : Nat} (h : usedAt cs n = true) : usedAt (cs ++ [c]) n = true := by
  have hn := usedAt_lt h
  unfold usedAt at *
  rw [List.getElem?_append_left hn]
  exact h
theorem okP_mono {cs cs' : List LC} (h : ∀ n, usedAt cs n = true → usedAt cs' n = true) {c : LC} (hc : okP cs c) : okP cs' c := ⟨fun hu => by
  obtain ⟨h1, h2⟩ := hc.1 hu
  exact ⟨List.all_eq_true.2 fun r hr => leadsB_mono h (List.all_eq_true.1 h1 r hr), h2⟩, hc.2⟩
theorem valid_setRoot {h : LH} (v : Valid h) {k : Nat} {x : Int} (hx : leadsB h.cells x = true) : Valid ⟨h.cells, h.roots.set k x⟩ :=
  ⟨v.le, by show (h.roots.set k x).length = 4; rw [List.length_set]; exact v.roots4, v.cells, fun r hr => by
    rcases List.mem_or_eq_of_mem_set hr with hr | rfl
    · exact v.roots r hr
    · exact hx⟩
theorem valid_setCell {h : LH} (v : Valid h) {k : Nat} {c : LC} (hu : c.used = true) (hr : ∀ r ∈ c.refs, leadsB h.cells r = true) (hd : 0 ≤ c.data ∧ c.data ≤ 99) (h3 : c.refs.length ≤ 3) : Valid ⟨h.cells.set k c, h.roots⟩ := by
  have hm : ∀ n, usedAt h.cells n = true → usedAt (h.cells.set k c) n = true := fun n => usedAt_set hu
  refine ⟨by show (h.cells.set k c).length ≤ 40; rw [List.length_set]; exact v.le, v.roots4, fun n hn => ?_, fun r hr => leadsB_mono hm (v.roots r hr)⟩
  have hn2 : n < h.cells.length := by have : n < (h.cells.set k c).length := hn; rwa [List.length_set] at this
  show okP (h.cells.set k c) (h.cells.set k c)[n]
  rw [List.getElem_set]
  split
  · exact (okP_u hu).2 ⟨List.all_eq_true.2 fun r hr2 => leadsB_mono hm (hr r hr2), hd.1, hd.2, h3⟩
  · exact okP_mono hm (v.cells n hn2)
theorem valid_addCell {h : LH} (v : Valid h) (h40 : h.cells.length < 40) {c : LC} (hu : c.used = true) (hr : ∀ r ∈ c.refs, leadsB h.cells r = true) (hd : 0 ≤ c.data ∧ c.data ≤ 99) (h3 : c.refs.length ≤ 3) : Valid ⟨h.cells ++ [c], h.roots⟩ := by
  have hm : ∀ n, usedAt h.cells n = true → usedAt (h.cells ++ [c]) n = true := fun n => usedAt_app
  refine ⟨by show (h.cells ++ [c]).length ≤ 40; rw [List.length_append]; simp; omega, v.roots4, fun n hn => ?_, fun r hr => leadsB_mono hm (v.roots r hr)⟩
  show okP (h.cells ++ [c]) (h.cells ++ [c])[n]
  by_cases hn2 : n < h.cells.length
  · rw [List.getElem_append_left hn2]
    exact okP_mono hm (v.cells n hn2)
  · rw [List.getElem_append_right (by omega)]
    simp only [List.getElem_singleton]
    exact (okP_u hu).2 ⟨List.all_eq_true.2 fun r hr2 => leadsB_mono hm (hr r hr2), hd.1, hd.2, h3⟩
theorem leadsB_last {cs : List LC} {c : LC} (hu : c.used = true) : leadsB (cs ++ [c]) (cs.length : Int) = true := by
  rw [leadsB_at (by simp)]
  simpa using hu
theorem leadsB_put {cs : List LC} {k : Nat} {c : LC} (hk : k < cs.length) (hu : c.used = true) : leadsB (cs.set k c) (k : Int) = true := by
  rw [leadsB_at (by rw [List.length_set]; exact hk)]
  simpa using hu
theorem rep_leads (cs : List LC) (n : Nat) : ∀ r ∈ List.replicate n (-1 : Int), leadsB cs r = true := fun r hr => by
  rw [(List.mem_replicate.1 hr).2]
  exact leadsB_m1 _
/-- A new cell behind the last one. -/
theorem valid_new {h : LH} (v : Valid h) (h40 : h.cells.length < 40) {k n : Nat} {d : Int} (hd : 0 ≤ d ∧ d ≤ 99) (h3 : n ≤ 3) : Valid ⟨h.cells ++ [⟨true, d, List.replicate n (-1)⟩], h.roots.set k (h.cells.length : Int)⟩ :=
  valid_setRoot (h := ⟨h.cells ++ [⟨true, d, List.replicate n (-1)⟩], h.roots⟩) (valid_addCell v h40 rfl (rep_leads _ _) hd (by simp; omega)) (leadsB_last rfl)
/-- A new cell at a place. -/
theorem valid_newAt {h : LH} (v : Valid h) {p k n : Nat} (hp : p < h.cells.length) {d : Int} (hd : 0 ≤ d ∧ d ≤ 99) (h3 : n ≤ 3) : Valid ⟨h.cells.set p ⟨true, d, List.replicate n (-1)⟩, h.roots.set k (p : Int)⟩ :=
  valid_setRoot (h := ⟨h.cells.set p ⟨true, d, List.replicate n (-1)⟩, h.roots⟩) (valid_setCell v rfl (rep_leads _ _) hd (by simp; omega)) (leadsB_put hp rfl)
theorem root_used {h : LH} (v : Valid h) {n m : Nat} (hn : n < h.roots.length) (hm : h.roots[n] = (m : Int)) (hmN : m < h.cells.length) : h.cells[m].used = true := by
  have h1 := v.roots _ (List.getElem_mem hn)
  rw [hm, leadsB_at hmN] at h1
  exact h1
theorem valid_setRef {h : LH} (v : Valid h) {m j : Nat} {x : Int} (hm : m < h.cells.length) (hu : h.cells[m].used = true) (hx : leadsB h.cells x = true) : Valid ⟨h.cells.set m ⟨h.cells[m].used, h.cells[m].data, h.cells[m].refs.set j x⟩, h.roots⟩ := by
  have ho := (okP_u hu).1 (v.cells m hm)
  refine valid_setCell v hu (fun r hr => ?_) ⟨ho.2.1, ho.2.2.1⟩ (by show (h.cells[m].refs.set j x).length ≤ 3; rw [List.length_set]; exact ho.2.2.2)
  rcases List.mem_or_eq_of_mem_set hr with hr | rfl
  · exact List.all_eq_true.1 ho.1 r hr
  · exact hx
theorem valid_setData {h : LH} (v : Valid h) {m : Nat} {x : Int} (hm : m < h.cells.length) (hu : h.cells[m].used = true) (hx : 0 ≤ x ∧ x ≤ 99) : Valid ⟨h.cells.set m ⟨h.cells[m].used, x, h.cells[m].refs⟩, h.roots⟩ := by
  have ho := (okP_u hu).1 (v.cells m hm)
  exact valid_setCell v hu (fun r hr => List.all_eq_true.1 ho.1 r hr) hx ho.2.2.2
end
/-! Cyc -/
section
open Go
theorem SubC.trans {a b c : List LC} {ra rb rc : List (Option Addr × Nat)} (h1 : SubC a ra b rb) (h2 : SubC b rb c rc) : SubC a ra c rc := fun i x r hx hr hn => by
  obtain ⟨p, q⟩ := h1 i x r hx hr hn
  exact h2 i x r p q hn
end
/-! Walk -/
section
open Go
theorem Bnd.snoc {N n : Nat} {s : List Int} (h : Bnd N s) (hn : n < N) (hs : (n : Int) ∉ s) : Bnd N (s ++ [(n : Int)]) := by
  refine ⟨?_, fun x hx => ?_⟩
  · rw [List.nodup_append]
    refine ⟨h.1, by simp, ?_⟩
    intro a ha b hb
    simp only [List.mem_singleton] at hb
    subst hb
    rintro rfl
    exact hs ha
  · rcases List.mem_append.1 hx with hx | hx
    · exact h.2 x hx
    · simp only [List.mem_singleton] at hx
      omega
end
/-! Rea -/
section
open Go
theorem rB_iff {h : LH} (v : Valid h) {n : Nat} : rB h n = true ↔ Rch h.cells h.roots nn n := by
  unfold rB
  rw [decide_eq_true_eq]
  exact orderL_mem v.leads
theorem nn_nat (n : Nat) : nn (n : Int) = true := by simp [nn]
theorem rB_root {h : LH} (v : Valid h) {n : Nat} (hr : (n : Int) ∈ h.roots) : rB h n = true := (rB_iff v).2 (.root hr (nn_nat n))
theorem rB_step {h : LH} (v : Valid h) {m n : Nat} (hm : rB h m = true) (hr : (n : Int) ∈ refsOf h.cells m) : rB h n = true := (rB_iff v).2 (.step ((rB_iff v).1 hm) hr (nn_nat n))
theorem rB_lt {h : LH} (v : Valid h) {n : Nat} (hm : rB h n = true) : n < h.cells.length := ((rB_iff v).1 hm).lt v.leads
theorem mB_at' {N n : Nat} {s : List Int} (h : n < (mB N s).length) : (mB N s)[n] = decide ((n : Int) ∈ s) := by simp [mB]
theorem reachV_at {h : LH} (hv : validB h = true) {n : Nat} (hn : n < (reachV h).length) : (reachV h)[n] = rB h n := by
  have e := rB_reach hv (n := n) (by rw [reachV_len hv] at hn; exact hn)
  rw [List.getElem?_eq_getElem hn] at e
  exact Option.some.inj e
/-- t has all of s, and what is new in t leads on into t. -/
def Cl (cs : List LC) (s t : List Int) : Prop := (∀ x ∈ s, x ∈ t) ∧ ∀ n : Nat, (n : Int) ∈ t → (n : Int) ∉ s → ∀ y ∈ refsOf cs n, nn y = true → y ∈ t
theorem Cl.refl (cs : List LC) (s : List Int) : Cl cs s s := ⟨fun _ h => h, fun _ h hn => absurd h hn⟩
theorem Cl.trans {cs : List LC} {s t u : List Int} (h : Cl cs s t) (k : Cl cs t u) : Cl cs s u := ⟨fun x hx => k.1 x (h.1 x hx), fun n hn hs y hy ho => by
  by_cases ht : (n : Int) ∈ t
  · exact k.1 _ (h.2 n ht hs y hy ho)
  · exact k.2 n hn ht y hy ho⟩
/-- All of s can be reached. -/
def Snd (cs : List LC) (fr s : List Int) : Prop := ∀ n : Nat, (n : Int) ∈ s → Rch cs fr nn n
/-- No cell that can be reached is freed. -/
def Spares (h : LH) (p : Nat → Bool) : Prop := ∀ n, rB h n = true → p n = false
/-- What cannot be reached is what the marks leave out. -/
theorem sweepP_reach {h : LH} (hv : validB h = true) {i : Nat} (hi : i < h.cells.length) : sweepP (reachV h) i = !rB h i := by
  unfold sweepP
  rw [inB_at (by rw [reachV_len hv]; exact hi), reachV_at hv]
theorem spares_reach {h : LH} (v : Valid h) : Spares h (sweepP (reachV h)) := fun n hn => by rw [sweepP_reach (valid_iff.2 v) (rB_lt v hn), hn]; rfl
theorem keeps_reach {h : LH} (v : Valid h) : Keeps h (sweepP (reachV h)) := by
  have hv := valid_iff.2 v
  refine ⟨fun r hr hc => ?_, fun n hn r hr hc => ?_⟩
  · obtain ⟨m, rfl⟩ := Int.eq_ofNat_of_zero_le hc.1
    have h1 := rB_root v hr
    rw [Int.toNat_natCast, spares_reach v m h1] at hc
    exact absurd hc.2 (by decide)
  · obtain ⟨m, rfl⟩ := Int.eq_ofNat_of_zero_le hc.1
    by_cases hN : n < h.cells.length
    · rw [sweepP_reach hv hN] at hn
      have h1 := rB_step v (by simpa using hn) hr
      rw [Int.toNat_natCast, spares_reach v m h1] at hc
      exact absurd hc.2 (by decide)
    · simp [refsOf, List.getElem?_eq_none (by omega : h.cells.length ≤ n)] at hr
end
/-! Gat -/
section
open Go
/-- o lists the cells that can be reached, each once. -/
structure Cov (h : LH) (o : List Int) : Prop where
  v : Valid h
  bnd : Bnd h.cells.length o
  mem : ∀ n : Nat, (n : Int) ∈ o ↔ rB h n = true
end
/-! Col -/
section
open Go
def sweptH (h : LH) : LH := dropH h (sweepP (reachV h))
theorem swept_eq {h : LH} (v : Valid h) : sweepV h (reachV h) = (sweptH h, ((cntP (leakP h) h.cells.length : Nat) : Int)) := by
  have hv := valid_iff.2 v
  rw [sweepV_t hv (reachV_len hv) ((valid_drop v _).2 (keeps_reach v))]
  have : cntP (sweepN h (reachV h)) h.cells.length = cntP (leakP h) h.cells.length := cntP_congr fun i hi => by
    unfold sweepN leakP
    rw [sweepP_reach hv hi]
  rw [this]
  rfl
theorem swept_valid {h : LH} (v : Valid h) : Valid (sweptH h) := valid_iff.1 ((valid_drop v _).2 (keeps_reach v))
end
/-! Sm -/
section
open Go
/-- At most 40 cells, each with at most three references; four roots. -/
structure Sm (h : LH) : Prop where
  le : h.cells.length ≤ 40
  three : ∀ c ∈ h.cells, c.refs.length ≤ 3
  four : h.roots.length = 4
theorem Valid.sm {h : LH} (v : Valid h) : Sm h := ⟨v.le, fun c hc => by
  obtain ⟨n, hn, rfl⟩ := List.getElem_of_mem hc
  exact v.refs3 hn, v.roots4⟩
theorem sm_of {h : LH} (h1 : h.cells.length ≤ 41) (h2 : ∀ c ∈ h.cells, c.refs.length ≤ 3) (h3 : h.roots.length ≤ 4) : hsize h ≤ 300 := by
  have := rsum_le3 h.cells h.cells.length h2
  unfold hsize
  omega
theorem Sm.size {h : LH} (s : Sm h) : hsize h ≤ 300 := sm_of (by have := s.le; omega) s.three (by rw [s.four]; omega)
theorem Sm.rest {h : LH} (s : Sm h) : hsize ⟨h.cells, h.roots.drop 1⟩ ≤ 300 := sm_of (by have := s.le; show h.cells.length ≤ 41; omega) s.three (by show (h.roots.drop 1).length ≤ 4; rw [List.length_drop, s.four]; omega)
theorem Sm.root {h : LH} (s : Sm h) (k : Nat) (x : Int) : hsize ⟨h.cells, h.roots.set k x⟩ ≤ 300 := sm_of (by have := s.le; show h.cells.length ≤ 41; omega) s.three (by show (h.roots.set k x).length ≤ 4; rw [List.length_set, s.four]; omega)
theorem Sm.more {h : LH} (s : Sm h) {z : LC} (hz : z.refs.length ≤ 3) : hsize ⟨h.cells ++ [z], h.roots⟩ ≤ 300 := sm_of (by have := s.le; show (h.cells ++ [z]).length ≤ 41; rw [List.length_append]; simp; omega) (fun c hc => by
  rcases List.mem_append.1 (show c ∈ h.cells ++ [z] from hc) with hc | hc
  · exact s.three c hc
  · simp only [List.mem_singleton] at hc
    rw [hc]
    exact hz) (by show h.roots.length ≤ 4; rw [s.four]; omega)
theorem Sm.ref {h : LH} (s : Sm h) {i : Nat} (hi : i < h.cells.length) (j : Nat) (x : Int) : Sm ⟨h.cells.set i ⟨h.cells[i].used, h.cells[i].data, h.cells[i].refs.set j x⟩, h.roots⟩ := ⟨by show (h.cells.set i _).length ≤ 40; rw [List.length_set]; exact s.le, fun c hc => by
  rcases List.mem_or_eq_of_mem_set (show c ∈ h.cells.set i _ from hc) with hc | rfl
  · exact s.three c hc
  · show (h.cells[i].refs.set j x).length ≤ 3
    rw [List.length_set]
    exact s.three _ (List.getElem_mem hi), s.four⟩
theorem Sm.swept {h : LH} (v : Valid h) : Sm (sweepV h (reachV h)).1 := by
  rw [swept_eq v]
  exact (swept_valid v).sm
theorem Blk.pickI {w : World} {b : Nat} {e : TypeId} {l : List Int} {k : Nat} (B : Blk w b e (ints l).toArray) (hk : k < l.length) : ∃ x : Int, w.cell? ⟨b, 0 + k * 1, none⟩ = some (.int .i64 x) := by
  refine ⟨l[k], ?_⟩
  rw [Nat.zero_add, Nat.mul_one]
  exact B.at (by rw [List.getElem?_toArray]; exact ints_get (List.getElem?_eq_getElem hk))
theorem flatO_last (l : List LCmd) (o : LCmd) : flatO (l ++ [o]) = flatO l ++ cmdC o := by rw [flatO_app, flatO, flatO, List.append_nil]
theorem flatO_take (l : List LCmd) (k : Nat) : (flatO l).take (k * 4) = flatO (l.take k) := by
  by_cases hk : k ≤ l.length
  · have e : flatO l = flatO (l.take k) ++ flatO (l.drop k) := by rw [← flatO_app, List.take_append_drop]
    rw [e, List.take_left']
    rw [flatO_len, List.length_take]
    omega
  · rw [List.take_of_length_le (by rw [flatO_len]; omega), List.take_of_length_le (by omega)]
theorem flatO_rep (o : LCmd) : ∀ n : Nat, flatO (List.replicate n o) = zeros (cmdC o) n
  | 0 => rfl
  | n + 1 => by rw [List.replicate_succ, flatO, flatO_rep o n]; rfl
theorem RO.of_ow {Pr : Nat → Prop} {w : World} {e : TypeId} {A : Option Addr} {n cap : Nat} {l : List LCmd} (O : OW Pr w e 4 A n cap (flatO l)) : RO Pr w A l := fun k o hk => by
  have hl := (List.getElem?_eq_some_iff.1 hk).1
  obtain ⟨b, post, rfl, hp, hB⟩ := O.blk (fun e0 => by
    have := flatO_len l
    rw [e0] at this
    simp at this
    omega)
  exact RO.of_blk hB hp k o hk
theorem all_snoc {α : Type} {p : α → Bool} {l : List α} {o : α} (h : l.all p = true) (ho : p o = true) : (l ++ [o]).all p = true := by
  rw [List.all_append, h]
  simp [ho]
end
/-! WalkDp -/
section
open Go Go.RowKit
attribute [local irreducible] wpList wpAnyH Code.wp dOp
set_option maxHeartbeats 1000000 in
set_option maxRecDepth 20000 in
theorem spec_l20Program_c (bR p : Nat) (n : Int) (w : World) (RD : Rd w bR p) (hp : p ≤ 800000) (hn : n ≤ 9223372036854775807) :
    Calls Try.prog 106 #[.pointer (some ⟨bR, 0, none⟩), .int .i64 n] w (Ret fun v w' => ∃ (l : List LCmd) (A1 : Option Addr) (q cap p2 : Nat), v = .slice A1 q cap ∧ q = l.length ∧ q ≤ cap ∧ l.length ≤ 41 ∧ (n ≤ 0 → csB l = true) ∧ p2 ≤ p + 700 ∧ RO (fun i => w.heap.size ≤ i) w' A1 l ∧ Rd w' bR p2 ∧ Mod (fun i => i = bR) w w') := by
 have lbR := RD.lt
 obtain ⟨z0, hz0⟩ : ∃ x, x = w.heap.size := ⟨_, rfl⟩
 refine enter Try.func106 rfl Try.ntmps106 (L := [_,_,_,_,_,_,_,_,_,_,_,_,_,_,_,_,_,_,_,_,_,_,_,_,_,_,_,_,_,_,_,_,_,_,_,_]) rfl ?_
 have G := Mod.refl (fun i => i = bR) w
 refine wp_seq_k fun K1 hK1 => ?_
 refine Sb 36 rfl ?_  -- 0
 refine S_val (Y_assign rfl) ?_
 refine S_nl rfl rfl ?_
 refine th_n (hK1 _ _ ?_)
 clear hK1 K1
 refine wp_seq_k fun K2 hK2 => ?_
 refine Sb 36 rfl ?_  -- 1
 refine S_bs0 Try.underlying120 sz133 ?_
 intro b1 w1 fb1 g1 B1
 have lb1 := B1.lt
 replace RD := RD.grow g1
 replace G := G.grow g1
 have zg1 := g1.size
 refine S_val (Y_assign rfl) ?_
 refine S_nl rfl rfl ?_
 refine th_n (hK2 _ _ ?_)
 clear hK2 K2
 refine wp_seq_k fun K3 hK3 => ?_
 refine wp_seq_k fun K4 hK4 => ?_
 refine Sb 36 rfl ?_  -- 2
 refine S_val (Y_move rfl) ?_
 refine S_call rfl en69 (spec_l20Rd_pick_c _ _ _ _ RD (by omega) (by omega)) ?_  -- k1 (*spec.l20Rd).pick
 rintro v2 w2 ⟨k2, rfl, hk2, RD2, m2⟩
 obtain ⟨k0, rfl⟩ : ∃ x, x = k2 := ⟨_, rfl⟩
 have hk0 := hk2 (by decide)
 replace RD := RD2
 clear RD2
 replace G := Mod.trans' G m2 (fun _ h _ => h) (fun i h hl => by first | exact h | omega | (dsimp only at h ⊢; omega))
 replace B1 := B1.md m2
 have zm2 := m2.size
 refine S_val (Y_assign rfl) ?_
 refine S_nl rfl rfl ?_
 refine th_n (hK4 _ _ ?_)
 clear hK4 K4
 refine wp_block ?_
 have O1 : OW (fun i => w.heap.size ≤ i) w2 133 4 (some ⟨b1, 0, none⟩) 0 0 (flatO []) := OW.of_blk B1 rfl (by decide) (by first | omega | (dsimp only; omega))
 go_loopw [5, 6] (fun u5 u6 wr => (∃ (k q cap pp : Nat) (A1 : Option Addr) (l : List LCmd), u6 = .int .i64 k ∧ u5 = .slice A1 q cap ∧ q = l.length ∧ l.length + k ≤ 40 ∧ l.all cvB = true ∧ pp ≤ p + 1 + 16 * l.length ∧ Rd wr bR pp ∧ OW (fun i => w.heap.size ≤ i) wr 133 4 A1 q cap (flatO l)) ∧ Mod (fun i => i = bR ∨ w.heap.size ≤ i) w2 wr) (fun u5 u6 wr => (intOf u6).toNat)  -- L1
 case atStart =>
  refine ⟨?_, Mod.refl _ _⟩
  exact ⟨k0, 0, 0, p + 1, _, [], rfl, rfl, rfl, by simp; omega, rfl, by omega, RD, O1⟩
 case round =>
  obtain ⟨w3, rfl⟩ : ∃ x : World, x = wr := ⟨_, rfl⟩
  obtain ⟨hrel, g3⟩ := hrel
  clear O1
  clear RD
  replace G := Mod.trans' G g3 (fun _ h _ => h) (fun i h hl => by first | exact h | omega | (dsimp only at h ⊢; omega))
  have zg3 := g3.size
  obtain ⟨k, q1, cap1, pp, A1, l, rfl, rfl, hq1, hlk, hall, hpp, RD, O1⟩ := hrel
  have GL3 := g3
  refine wp_seq_k fun K5 hK5 => ?_
  refine wp_seq_k fun K6 hK6 => ?_
  refine Sb 36 rfl ?_  -- 3
  refine S_val (Y_move rfl) ?_
  refine S_val (Y_gtr rfl rfl) ?_
  refine S_nl rfl rfl ?_
  refine th_n (hK6 _ _ ?_)
  clear hK6 K6
  refine S_if rfl (fun hb1 => ?_) (fun hb1 => ?_)  -- c1
  · -- c1T
   replace hb1 := nb_tt hb1
   have hk0 : 0 < k := by omega
   refine wp_skip ?_
   refine th_n (hK5 _ _ ?_)
   clear hK5 K5
   refine wp_seq_k fun K7 hK7 => ?_
   refine wp_block ?_
   refine Sb 36 rfl ?_  -- 5
   refine S_val (Y_move rfl) ?_
   refine S_val (Y_move rfl) ?_
   refine S_call rfl en121 (spec_l20Command_c _ _ _ _ RD (by omega) (by omega)) ?_  -- k2 spec.l20Command
   rintro v4 w4 ⟨o4, p4, rfl, ho4, hp4, RD4, m4⟩
   obtain ⟨oN, rfl⟩ : ∃ x, x = o4 := ⟨_, rfl⟩
   have hoN := ho4
   have hpN := hp4
   replace RD := RD4
   clear RD4
   replace G := Mod.trans' G m4 (fun _ h _ => h) (fun i h hl => by first | exact h | omega | (dsimp only at h ⊢; omega))
   replace GL3 := GL3.trn m4
   replace O1 := O1.md m4
   have zm4 := m4.size
   refine S_bs1 (cs := [_, _, _, _]) Try.underlying120 zr133 sz133 rfl rfl rfl ?_
   intro b5 w5 fb5 g5 B5
   have lb5 := B5.lt
   replace O1 := O1.grow g5
   replace RD := RD.grow g5
   replace G := G.grow g5
   replace GL3 := GL3.grow g5
   have zg5 := g5.size
   refine S_app Try.underlying120 zr133 sz133 by133 rfl rfl O1 rfl (Src.blk B5) (by simp [Value.oneCell', cmdC]) (by omega) (Pr' := (fun i => w.heap.size ≤ i)) (fun i hi => by first | exact hi | omega | (dsimp only at hi ⊢; omega)) (by first | omega | (dsimp only; omega)) ?_
   intro A6 cap6 w6 X6 m6
   replace O1 := X6
   clear X6
   replace G := Mod.trans' G m6 (fun _ h _ => h) (fun i h hl => by first | exact h | omega | (dsimp only at h ⊢; omega))
   replace GL3 := GL3.trn m6
   replace RD := RD.md m6
   have zm6 := m6.size
   replace O1 : OW (fun i => w.heap.size ≤ i) w6 133 4 A6 (q1 + 1) cap6 (flatO (l ++ [oN])) := by rw [flatO_last]; exact O1
   refine S_val (Y_assign rfl) ?_
   refine S_nl rfl rfl ?_
   refine ib_n ?_
   refine th_n (hK7 _ _ ?_)
   clear hK7 K7
   refine Sb 36 rfl ?_  -- 4
   refine S_val (Y_move rfl) ?_
   refine S_val (Y_sub (c := ((k - 1 : Nat) : Int)) rfl rfl (by omega) (by omega) (by omega)) ?_
   refine S_val (Y_assign rfl) ?_
   refine S_nl rfl rfl ?_
   refine th_n ?_
   go_roundw  -- e1 of L1
   case rel =>
    refine ⟨?_, GL3⟩
    exact ⟨k - 1, _, _, _, _, l ++ [oN], rfl, rfl, by rw [hq1, List.length_append]; rfl, by rw [List.length_append]; simp; omega, all_snoc hall (hoN (by decide)), by rw [List.length_append]; simp; omega, RD, O1⟩
   case measure =>
    exact dec_nat (by omega)
  · -- c1F
   replace hb1 := nb_tf hb1
   have hcs0 : csB l = true := by unfold csB; rw [decide_eq_true_eq]; exact ⟨by omega, hall⟩
   have hqc := O1.cap
   have hl40 : l.length ≤ 41 := by omega
   obtain ⟨lF, hlF⟩ : ∃ x, x = l := ⟨_, rfl⟩
   rw [← hlF] at hcs0 hl40 O1 hq1
   have hcsF : n ≤ 0 → csB lF = true := fun _ => hcs0
   refine wp_exit ?_
   refine th_x ?_
   try clear GL3
   refine th_x ?_
   refine ib_e ?_
   refine th_n (hK3 _ _ ?_)
   clear hK5 K5 hK3 K3
   refine wp_seq_k fun K8 hK8 => ?_
   refine wp_seq_k fun K9 hK9 => ?_
   refine Sb 36 rfl ?_  -- 6
   refine S_val (Y_move rfl) ?_
   refine S_val (Y_move rfl) ?_
   refine S_call rfl en73 (spec_l20Rd_odd_c _ _ _ _ RD (by omega) (by omega)) ?_  -- k3 (*spec.l20Rd).odd
   rintro v7 w7 ⟨r7, p7, rfl, hr7, hp7, RD7, m7⟩
   obtain ⟨r9, rfl⟩ : ∃ x, x = r7 := ⟨_, rfl⟩
   have hr9 := hr7
   replace RD := RD7
   clear RD7
   replace G := Mod.trans' G m7 (fun _ h _ => h) (fun i h hl => by first | exact h | omega | (dsimp only at h ⊢; omega))
   replace O1 := O1.md m7
   have zm7 := m7.size
   refine S_nl rfl rfl ?_
   refine th_n (hK9 _ _ ?_)
   clear hK9 K9
   refine S_if rfl (fun hb2 => ?_) (fun hb2 => ?_)  -- c2
   · -- c2T
    first | with_reducible (replace hb2 := nb_nt hb2) | with_reducible (replace hb2 := nb_tt hb2) | with_reducible (replace hb2 := nb_bt hb2) | skip
    refine wp_seq_k fun K10 hK10 => ?_
    refine Sb 36 rfl ?_  -- 7
    refine S_val (Y_move rfl) ?_
    refine S_call rfl en69 (spec_l20Rd_pick_c _ _ _ _ RD (by omega) (by omega)) ?_  -- k4 (*spec.l20Rd).pick
    rintro v8 w8 ⟨k8, rfl, hk8, RD8, m8⟩
    obtain ⟨k1, rfl⟩ : ∃ x, x = k8 := ⟨_, rfl⟩
    have hk1 := hk8 (by decide)
    replace RD := RD8
    clear RD8
    replace G := Mod.trans' G m8 (fun _ h _ => h) (fun i h hl => by first | exact h | omega | (dsimp only at h ⊢; omega))
    replace O1 := O1.md m8
    have zm8 := m8.size
    refine S_val (Y_eql rfl rfl) ?_
    refine S_nl rfl rfl ?_
    refine th_n (hK10 _ _ ?_)
    clear hK10 K10
    refine S_if rfl (fun hb3 => ?_) (fun hb3 => ?_)  -- c3
    · -- c3T
     replace hb3 := nb_tt hb3
     refine D_start 10 36 (fun w => Mod (fun i => i = bR ∨ z0 ≤ i) w) follows rfl rfl ?_  -- d1 r8
     intro w9 g9
     replace O1 := O1.grow g9
     replace RD := RD.grow g9
     replace G := G.grow g9
     have zg9 := g9.size
     have GS9 := Mod.refl (fun i => i = bR ∨ z0 ≤ i) w9
     refine Dq (i := 0) rfl GS9 (fun _ _ => Y_move rfl) ?_
     refine Dq (i := 1) rfl GS9 (fun _ _ => Y_move rfl) ?_
     refine Dq (i := 2) rfl GS9 (fun _ _ => Y_len Try.underlying120 rfl) ?_
     refine Dq (i := 5) rfl GS9 (fun _ _ => Y_move rfl) ?_
     refine D_2 (i := 3) (j := 6) (by kernel_rfl) ?_ ?_
     · -- operation 3 comes up
      refine E_val (i := 3) rfl (Y_minN (b := 9) rfl rfl) GS9 ?_
      refine Dq (i := 4) rfl GS9 (fun _ _ => Y_sliceH Try.underlying120 sz133 rfl (j := min q1 9) rfl (by omega)) ?_
      refine D_1 (i := 6) (by kernel_rfl) ?_
      refine E_call rfl rfl en121 (spec_l20Command_c _ _ _ _ RD (by omega) (by omega)) ?_  -- k5 spec.l20Command
      rintro v11 w11 ⟨o11, p11, rfl, ho11, hp11, RD11, m11⟩
      obtain ⟨oN, rfl⟩ : ∃ x, x = o11 := ⟨_, rfl⟩
      have hoN := ho11
      have hpN := hp11
      replace RD := RD11
      clear RD11
      replace G := Mod.trans' G m11 (fun _ h _ => h) (fun i h hl => by first | exact h | omega | (dsimp only at h ⊢; omega))
      replace GS9 := GS9.trn m11
      replace O1 := O1.md m11
      have zm11 := m11.size
      refine ⟨GS9, ?_⟩
      refine D_1 (i := 7) (by kernel_rfl) ?_
      refine E_bs1 (cs := [_, _, _, _]) (i := 7) rfl Try.underlying120 zr133 sz133 rfl rfl rfl ?_
      intro b12 w12 fb12 g12 B12
      refine ⟨GS9.grow g12, ?_⟩
      have lb12 := B12.lt
      replace O1 := O1.grow g12
      replace RD := RD.grow g12
      replace G := G.grow g12
      replace GS9 := GS9.grow g12
      have zg12 := g12.size
      refine D_1 (i := 8) (by kernel_rfl) ?_
      refine E_app (i := 8) rfl Try.underlying120 zr133 sz133 by133 rfl rfl (O1.pop (m := min q1 9) (by omega)) rfl (Src.blk B12) (by simp [Value.oneCell', cmdC]) (by omega) (Pr' := (fun i => w.heap.size ≤ i)) (fun i hi => by first | exact hi | omega | (dsimp only at hi ⊢; omega)) (by first | omega | (dsimp only; omega)) ?_
      intro A13 cap13 w13 X13 m13
      replace O1 := X13
      clear X13
      replace G := Mod.trans' G m13 (fun _ h _ => h) (fun i h hl => by first | exact h | omega | (dsimp only at h ⊢; omega))
      replace GS9 := GS9.trn m13
      replace RD := RD.md m13
      have zm13 := m13.size
      rw [flatO_take] at O1
      replace O1 : OW (fun i => w.heap.size ≤ i) w13 133 4 A13 (min q1 9 + 1) cap13 (flatO (lF.take (min q1 9) ++ [oN])) := by rw [flatO_last]; exact O1
      have hl41 : (lF.take (min q1 9) ++ [oN]).length = min q1 9 + 1 := by rw [List.length_append, List.length_take]; simp; omega
      refine ⟨GS9, ?_⟩
      refine Dq (i := 9) rfl GS9 (fun _ _ => Y_assign rfl) ?_
      refine D_en (by kernel_rfl) rfl rfl ?_
      refine th_n (hK8 _ _ ?_)
      clear hK8 K8
      refine wp_seq_k fun K11 hK11 => ?_
      refine Sb 36 rfl ?_  -- 10
      refine S_val (Y_move rfl) ?_
      refine S_val (Y_assign rfl) ?_
      refine S_nl rfl rfl ?_
      refine th_n (hK11 _ _ ?_)
      clear hK11 K11
      refine wp_ret ?_
      refine ret_r1 rfl rfl ?_  -- r1
      first | exact ⟨lF, _, _, _, _, rfl, hq1, hqc, hl40, hcsF, by omega, RO.of_ow O1, RD, G⟩ | exact ⟨_, _, _, _, _, rfl, by rw [hl41], O1.cap, by omega, fun h => by (have h9 := hr9 h; rw [h9] at hb2; cases hb2), by omega, RO.of_ow O1, RD, G⟩ | exact ⟨List.replicate 41 ⟨0, 0, 0, 0⟩, _, _, _, _, rfl, by simp, by omega, by simp, fun h => by (have h9 := hr9 h; rw [h9] at hb2; cases hb2), by omega, hRO, RD, G⟩
     · -- operation 6 comes up
      refine E_call rfl rfl en121 (spec_l20Command_c _ _ _ _ RD (by omega) (by omega)) ?_  -- k6 spec.l20Command
      rintro v14 w14 ⟨o14, p14, rfl, ho14, hp14, RD14, m14⟩
      obtain ⟨oN, rfl⟩ : ∃ x, x = o14 := ⟨_, rfl⟩
      have hoN := ho14
      have hpN := hp14
      replace RD := RD14
      clear RD14
      replace G := Mod.trans' G m14 (fun _ h _ => h) (fun i h hl => by first | exact h | omega | (dsimp only at h ⊢; omega))
      replace GS9 := GS9.trn m14
      replace O1 := O1.md m14
      have zm14 := m14.size
      refine ⟨GS9, ?_⟩
      refine D_2 (i := 3) (j := 7) (by kernel_rfl) ?_ ?_
      · -- operation 3 comes up
       refine E_val (i := 3) rfl (Y_minN (b := 9) rfl rfl) GS9 ?_
       refine Dq (i := 4) rfl GS9 (fun _ _ => Y_sliceH Try.underlying120 sz133 rfl (j := min q1 9) rfl (by omega)) ?_
       refine D_1 (i := 7) (by kernel_rfl) ?_
       refine E_bs1 (cs := [_, _, _, _]) (i := 7) rfl Try.underlying120 zr133 sz133 rfl rfl rfl ?_
       intro b16 w16 fb16 g16 B16
       refine ⟨GS9.grow g16, ?_⟩
       have lb16 := B16.lt
       replace O1 := O1.grow g16
       replace RD := RD.grow g16
       replace G := G.grow g16
       replace GS9 := GS9.grow g16
       have zg16 := g16.size
       refine D_1 (i := 8) (by kernel_rfl) ?_
       refine E_app (i := 8) rfl Try.underlying120 zr133 sz133 by133 rfl rfl (O1.pop (m := min q1 9) (by omega)) rfl (Src.blk B16) (by simp [Value.oneCell', cmdC]) (by omega) (Pr' := (fun i => w.heap.size ≤ i)) (fun i hi => by first | exact hi | omega | (dsimp only at hi ⊢; omega)) (by first | omega | (dsimp only; omega)) ?_
       intro A17 cap17 w17 X17 m17
       replace O1 := X17
       clear X17
       replace G := Mod.trans' G m17 (fun _ h _ => h) (fun i h hl => by first | exact h | omega | (dsimp only at h ⊢; omega))
       replace GS9 := GS9.trn m17
       replace RD := RD.md m17
       have zm17 := m17.size
       rw [flatO_take] at O1
       replace O1 : OW (fun i => w.heap.size ≤ i) w17 133 4 A17 (min q1 9 + 1) cap17 (flatO (lF.take (min q1 9) ++ [oN])) := by rw [flatO_last]; exact O1
       have hl41 : (lF.take (min q1 9) ++ [oN]).length = min q1 9 + 1 := by rw [List.length_append, List.length_take]; simp; omega
       refine ⟨GS9, ?_⟩
       refine Dq (i := 9) rfl GS9 (fun _ _ => Y_assign rfl) ?_
       refine D_en (by kernel_rfl) rfl rfl ?_
       refine th_n (hK8 _ _ ?_)
       clear hK8 K8
       refine wp_seq_k fun K12 hK12 => ?_
       refine Sb 36 rfl ?_  -- 10
       refine S_val (Y_move rfl) ?_
       refine S_val (Y_assign rfl) ?_
       refine S_nl rfl rfl ?_
       refine th_n (hK12 _ _ ?_)
       clear hK12 K12
       refine wp_ret ?_
       refine ret_r1 rfl rfl ?_  -- r2
       first | exact ⟨lF, _, _, _, _, rfl, hq1, hqc, hl40, hcsF, by omega, RO.of_ow O1, RD, G⟩ | exact ⟨_, _, _, _, _, rfl, by rw [hl41], O1.cap, by omega, fun h => by (have h9 := hr9 h; rw [h9] at hb2; cases hb2), by omega, RO.of_ow O1, RD, G⟩ | exact ⟨List.replicate 41 ⟨0, 0, 0, 0⟩, _, _, _, _, rfl, by simp, by omega, by simp, fun h => by (have h9 := hr9 h; rw [h9] at hb2; cases hb2), by omega, hRO, RD, G⟩
      · -- operation 7 comes up
       refine E_bs1 (cs := [_, _, _, _]) (i := 7) rfl Try.underlying120 zr133 sz133 rfl rfl rfl ?_
       intro b18 w18 fb18 g18 B18
       refine ⟨GS9.grow g18, ?_⟩
       have lb18 := B18.lt
       replace O1 := O1.grow g18
       replace RD := RD.grow g18
       replace G := G.grow g18
       replace GS9 := GS9.grow g18
       have zg18 := g18.size
       refine D_1 (i := 3) (by kernel_rfl) ?_
       refine E_val (i := 3) rfl (Y_minN (b := 9) rfl rfl) GS9 ?_
       refine Dq (i := 4) rfl GS9 (fun _ _ => Y_sliceH Try.underlying120 sz133 rfl (j := min q1 9) rfl (by omega)) ?_
       refine D_1 (i := 8) (by kernel_rfl) ?_
       refine E_app (i := 8) rfl Try.underlying120 zr133 sz133 by133 rfl rfl (O1.pop (m := min q1 9) (by omega)) rfl (Src.blk B18) (by simp [Value.oneCell', cmdC]) (by omega) (Pr' := (fun i => w.heap.size ≤ i)) (fun i hi => by first | exact hi | omega | (dsimp only at hi ⊢; omega)) (by first | omega | (dsimp only; omega)) ?_
       intro A20 cap20 w20 X20 m20
       replace O1 := X20
       clear X20
       replace G := Mod.trans' G m20 (fun _ h _ => h) (fun i h hl => by first | exact h | omega | (dsimp only at h ⊢; omega))
       replace GS9 := GS9.trn m20
       replace RD := RD.md m20
       have zm20 := m20.size
       rw [flatO_take] at O1
       replace O1 : OW (fun i => w.heap.size ≤ i) w20 133 4 A20 (min q1 9 + 1) cap20 (flatO (lF.take (min q1 9) ++ [oN])) := by rw [flatO_last]; exact O1
       have hl41 : (lF.take (min q1 9) ++ [oN]).length = min q1 9 + 1 := by rw [List.length_append, List.length_take]; simp; omega
       refine ⟨GS9, ?_⟩
       refine Dq (i := 9) rfl GS9 (fun _ _ => Y_assign rfl) ?_
       refine D_en (by kernel_rfl) rfl rfl ?_
       refine th_n (hK8 _ _ ?_)
       clear hK8 K8
       refine wp_seq_k fun K13 hK13 => ?_
       refine Sb 36 rfl ?_  -- 10
       refine S_val (Y_move rfl) ?_
       refine S_val (Y_assign rfl) ?_
       refine S_nl rfl rfl ?_
       refine th_n (hK13 _ _ ?_)
       clear hK13 K13
       refine wp_ret ?_
       refine ret_r1 rfl rfl ?_  -- r3
       first | exact ⟨lF, _, _, _, _, rfl, hq1, hqc, hl40, hcsF, by omega, RO.of_ow O1, RD, G⟩ | exact ⟨_, _, _, _, _, rfl, by rw [hl41], O1.cap, by omega, fun h => by (have h9 := hr9 h; rw [h9] at hb2; cases hb2), by omega, RO.of_ow O1, RD, G⟩ | exact ⟨List.replicate 41 ⟨0, 0, 0, 0⟩, _, _, _, _, rfl, by simp, by omega, by simp, fun h => by (have h9 := hr9 h; rw [h9] at hb2; cases hb2), by omega, hRO, RD, G⟩
    · -- c3F
     replace hb3 := nb_tf hb3
     refine Sb 36 rfl ?_  -- 9
     refine S_make (n := 41) (l := 41) (z := cmdC ⟨0, 0, 0, 0⟩) Try.underlying120 zr133 sz133 by133 rfl rfl (by omega) (by omega) (by omega) ?_
     intro b21 w21 fb21 g21 B21
     have lb21 := B21.lt
     replace O1 := O1.grow g21
     replace RD := RD.grow g21
     replace G := G.grow g21
     have zg21 := g21.size
     rw [← flatO_rep] at B21
     have hRO : RO (fun i => w.heap.size ≤ i) w21 (some ⟨b21, 0, none⟩) (List.replicate 41 ⟨0, 0, 0, 0⟩) := RO.of_blk0 B21 (by omega)
     refine S_val (Y_assign rfl) ?_
     refine S_nl rfl rfl ?_
     refine th_n (hK8 _ _ ?_)
     clear hK8 K8
     refine wp_seq_k fun K14 hK14 => ?_
     refine Sb 36 rfl ?_  -- 10
     refine S_val (Y_move rfl) ?_
     refine S_val (Y_assign rfl) ?_
     refine S_nl rfl rfl ?_
     refine th_n (hK14 _ _ ?_)
     clear hK14 K14
     refine wp_ret ?_
     refine ret_r1 rfl rfl ?_  -- r4
     first | exact ⟨lF, _, _, _, _, rfl, hq1, hqc, hl40, hcsF, by omega, RO.of_ow O1, RD, G⟩ | exact ⟨_, _, _, _, _, rfl, by rw [hl41], O1.cap, by omega, fun h => by (have h9 := hr9 h; rw [h9] at hb2; cases hb2), by omega, RO.of_ow O1, RD, G⟩ | exact ⟨List.replicate 41 ⟨0, 0, 0, 0⟩, _, _, _, _, rfl, by simp, by omega, by simp, fun h => by (have h9 := hr9 h; rw [h9] at hb2; cases hb2), by omega, hRO, RD, G⟩
   · -- c2F
    first | with_reducible (replace hb2 := nb_nf hb2) | with_reducible (replace hb2 := nb_tf hb2) | with_reducible (replace hb2 := nb_bf hb2) | skip
    refine wp_skip ?_
    refine th_n (hK8 _ _ ?_)
    clear hK8 K8
    refine wp_seq_k fun K15 hK15 => ?_
    refine Sb 36 rfl ?_  -- 10
    refine S_val (Y_move rfl) ?_
    refine S_val (Y_assign rfl) ?_
    refine S_nl rfl rfl ?_
    refine th_n (hK15 _ _ ?_)
    clear hK15 K15
    refine wp_ret ?_
    refine ret_r1 rfl rfl ?_  -- r5
    first | exact ⟨lF, _, _, _, _, rfl, hq1, hqc, hl40, hcsF, by omega, RO.of_ow O1, RD, G⟩ | exact ⟨_, _, _, _, _, rfl, by rw [hl41], O1.cap, by omega, fun h => by (have h9 := hr9 h; rw [h9] at hb2; cases hb2), by omega, RO.of_ow O1, RD, G⟩ | exact ⟨List.replicate 41 ⟨0, 0, 0, 0⟩, _, _, _, _, rfl, by simp, by omega, by simp, fun h => by (have h9 := hr9 h; rw [h9] at hb2; cases hb2), by omega, hRO, RD, G⟩
end
/-! WalkM -/
section
open Go Go.RowKit
attribute [local irreducible] wpList wpAnyH Code.wp dOp
set_option maxHeartbeats 400000 in
set_option maxRecDepth 20000 in
theorem laws_markIntS_c (Pr : Nat → Prop) (A : Option Addr) (xs : List Int) (n c : Nat) (k : Int) (w : World) (O : OI Pr w 3 A (ints xs)) (hn : n = xs.length) (hx : n ≤ 1048576) (hk : 0 ≤ k ∧ k ≤ 1099511627776) :
    Calls Try.prog 66 #[.slice A n c, .int .i64 k] w (Ret fun v w' => v = .int .i64 (k + (n : Int)) ∧ OI Pr w' 3 A (ints (iota k n)) ∧ Mod (fun i => 0 < n ∧ A = some ⟨i, 0, none⟩) w w') := by
 refine enter Try.func66 rfl Try.ntmps66 (L := [_,_,_,_,_,_,_,_,_,_,_,_,_,_,_,_,_,_,_]) rfl ?_
 have G := Mod.refl (fun i => 0 < n ∧ A = some ⟨i, 0, none⟩) w
 refine wp_seq_k fun K1 hK1 => ?_
 refine Sb 19 rfl ?_  -- 0
 refine S_val (Y_assign rfl) ?_
 refine S_nl rfl rfl ?_
 refine th_n (hK1 _ _ ?_)
 clear hK1 K1
 refine wp_seq_k fun K2 hK2 => ?_
 refine wp_seq_k fun K3 hK3 => ?_
 refine Sb 19 rfl ?_  -- 1
 refine S_val (Y_assign rfl) ?_
 refine S_nl rfl rfl ?_
 refine th_n (hK3 _ _ ?_)
 clear hK3 K3
 refine wp_block ?_
 go_loopw [1, 5] (fun u1 u5 wr => (∃ j : Nat, u5 = .int .i64 j ∧ u1 = .int .i64 (k + (j : Int)) ∧ j ≤ n ∧ OI Pr wr 3 A (ints (iota k j ++ xs.drop j))) ∧ Mod (fun i => 0 < n ∧ A = some ⟨i, 0, none⟩) w wr) (fun u1 u5 wr => n - (intOf u5).toNat)  -- L1
 case atStart =>
  refine ⟨?_, Mod.refl _ _⟩
  exact ⟨0, rfl, by simp, by omega, by simpa [iota] using O⟩
 case round =>
  obtain ⟨w1, rfl⟩ : ∃ x : World, x = wr := ⟨_, rfl⟩
  obtain ⟨hrel, g1⟩ := hrel
  clear O
  replace G := Mod.trans' G g1 (fun _ h _ => h) (fun i h _ => by first | exact h | (subst h; exact ⟨by omega, rfl⟩))
  have zg1 := g1.size
  obtain ⟨j, rfl, rfl, hj, O⟩ := hrel
  have GL1 := g1
  refine wp_seq_k fun K4 hK4 => ?_
  refine wp_seq_k fun K5 hK5 => ?_
  refine Sb 19 rfl ?_  -- 2
  refine S_val (Y_move rfl) ?_
  refine S_val (Y_move rfl) ?_
  refine S_val (Y_len Try.underlying23 rfl) ?_
  refine S_val (Y_lss rfl rfl) ?_
  refine S_nl rfl rfl ?_
  refine th_n (hK5 _ _ ?_)
  clear hK5 K5
  refine S_if rfl (fun hb1 => ?_) (fun hb1 => ?_)  -- c1
  · -- c1T
   replace hb1 := nb_tt hb1
   have hj1 : j < xs.length := by omega
   have hul : (ints (iota k j ++ xs.drop j)).length = xs.length := by rw [ints_len, List.length_append, iota_len, List.length_drop]; omega
   have hug : (ints (iota k j ++ xs.drop j))[j]? = some (.int .i64 xs[j]) := ints_get (by rw [List.getElem?_append_right (by rw [iota_len]; omega), iota_len, Nat.sub_self, List.getElem?_drop]; simp [hj1])
   obtain ⟨bq, post, rfl, hp, Bq⟩ := O (fun e => by rw [e] at hul; simp at hul; omega)
   refine wp_skip ?_
   refine th_n (hK4 _ _ ?_)
   clear hK4 K4
   refine wp_seq_k fun K6 hK6 => ?_
   refine wp_block ?_
   refine wp_seq_k fun K7 hK7 => ?_
   refine Sb 19 rfl ?_  -- 4
   refine S_val (Y_move rfl) ?_
   refine S_val (Y_move rfl) ?_
   refine S_val (Y_move rfl) ?_
   refine S_val (Y_index Try.underlying23 sz3 rfl rfl (by first | assumption | omega)) ?_
   refine S_stM (pre := (ints (iota k j ++ xs.drop j)).take j) (old := [.int .i64 xs[j]]) (post := (ints (iota k j ++ xs.drop j)).drop (j + 1) ++ post) (vs := [_]) sz3 rfl rfl rfl rfl (by rw [← List.append_assoc, ← split_at hug]; exact Bq) (by rw [List.length_take, hul]; omega) rfl ?_
   intro w2 m2 X2
   replace Bq := Blk.eq X2 (by rw [← List.append_assoc, iota_set hj1])
   clear X2
   replace G := Mod.trans' G m2 (fun _ h _ => h) (fun i h _ => by first | exact h | (subst h; exact ⟨by omega, rfl⟩))
   replace GL1 := GL1.trn m2
   have zm2 := m2.size
   refine S_nl rfl rfl ?_
   refine th_n (hK7 _ _ ?_)
   clear hK7 K7
   refine Sb 19 rfl ?_  -- 5
   refine S_val (Y_move rfl) ?_
   refine S_val (Y_add (c := k + ((j + 1 : Nat) : Int)) rfl rfl (by omega) (by omega) (by omega)) ?_
   refine S_val (Y_assign rfl) ?_
   refine S_nl rfl rfl ?_
   refine ib_n ?_
   refine th_n (hK6 _ _ ?_)
   clear hK6 K6
   refine Sb 19 rfl ?_  -- 3
   refine S_val (Y_move rfl) ?_
   refine S_val (Y_inc rfl rfl (by omega)) ?_
   refine S_val (Y_assign rfl) ?_
   refine S_nl rfl rfl ?_
   refine th_n ?_
   go_roundw  -- e1 of L1
   case rel =>
    refine ⟨?_, GL1⟩
    exact ⟨j + 1, rfl, rfl, by omega, OI.of_blk Bq hp⟩
   case measure =>
    exact dec_nat (by omega)
  · -- c1F
   replace hb1 := nb_tf hb1
   refine wp_exit ?_
   refine th_x ?_
   try clear GL1
   refine th_x ?_
   refine ib_e ?_
   refine th_n (hK2 _ _ ?_)
   clear hK4 K4 hK2 K2
   refine wp_seq_k fun K8 hK8 => ?_
   refine Sb 19 rfl ?_  -- 6
   refine S_val (Y_move rfl) ?_
   refine S_val (Y_assign rfl) ?_
   refine S_nl rfl rfl ?_
   refine th_n (hK8 _ _ ?_)
   clear hK8 K8
   refine wp_ret ?_
   refine ret_r1 rfl rfl ?_  -- r1
   have : j = n := by omega
   subst this
   exact ⟨rfl, by simpa [hn] using O, G⟩
set_option maxHeartbeats 400000 in
set_option maxRecDepth 20000 in
theorem laws_markBoolS_c (Pr : Nat → Prop) (A : Option Addr) (xs : List Bool) (n c : Nat) (k : Int) (w : World) (O : OI Pr w 4 A (bools xs)) (hn : n = xs.length) (hx : n ≤ 1048576) (hk : 0 ≤ k ∧ k ≤ 1099511627776) :
    Calls Try.prog 18 #[.slice A n c, .int .i64 k] w (Ret fun v w' => v = .int .i64 (k + (n : Int)) ∧ OI Pr w' 4 A (bools (thirds k n)) ∧ Mod (fun i => 0 < n ∧ A = some ⟨i, 0, none⟩) w w') := by
 refine enter Try.func18 rfl Try.ntmps18 (L := [_,_,_,_,_,_,_,_,_,_,_,_,_,_,_,_,_,_,_,_,_]) rfl ?_
 have G := Mod.refl (fun i => 0 < n ∧ A = some ⟨i, 0, none⟩) w
 refine wp_seq_k fun K1 hK1 => ?_
 refine Sb 21 rfl ?_  -- 0
 refine S_val (Y_assign rfl) ?_
 refine S_nl rfl rfl ?_
 refine th_n (hK1 _ _ ?_)
 clear hK1 K1
 refine wp_seq_k fun K2 hK2 => ?_
 refine wp_seq_k fun K3 hK3 => ?_
 refine Sb 21 rfl ?_  -- 1
 refine S_val (Y_assign rfl) ?_
 refine S_nl rfl rfl ?_
 refine th_n (hK3 _ _ ?_)
 clear hK3 K3
 refine wp_block ?_
 go_loopw [1, 5] (fun u1 u5 wr => (∃ j : Nat, u5 = .int .i64 j ∧ u1 = .int .i64 (k + (j : Int)) ∧ j ≤ n ∧ OI Pr wr 4 A (bools (thirds k j ++ xs.drop j))) ∧ Mod (fun i => 0 < n ∧ A = some ⟨i, 0, none⟩) w wr) (fun u1 u5 wr => n - (intOf u5).toNat)  -- L1
 case atStart =>
  refine ⟨?_, Mod.refl _ _⟩
  exact ⟨0, rfl, by simp, by omega, by simpa [thirds] using O⟩
 case round =>
  obtain ⟨w1, rfl⟩ : ∃ x : World, x = wr := ⟨_, rfl⟩
  obtain ⟨hrel, g1⟩ := hrel
  clear O
  replace G := Mod.trans' G g1 (fun _ h _ => h) (fun i h _ => by first | exact h | (subst h; exact ⟨by omega, rfl⟩))
  have zg1 := g1.size
  obtain ⟨j, rfl, rfl, hj, O⟩ := hrel
  have GL1 := g1
  refine wp_seq_k fun K4 hK4 => ?_
  refine wp_seq_k fun K5 hK5 => ?_
  refine Sb 21 rfl ?_  -- 2
  refine S_val (Y_move rfl) ?_
  refine S_val (Y_move rfl) ?_
  refine S_val (Y_len Try.underlying27 rfl) ?_
  refine S_val (Y_lss rfl rfl) ?_
  refine S_nl rfl rfl ?_
  refine th_n (hK5 _ _ ?_)
  clear hK5 K5
  refine S_if rfl (fun hb1 => ?_) (fun hb1 => ?_)  -- c1
  · -- c1T
   replace hb1 := nb_tt hb1
   have hj1 : j < xs.length := by omega
   have hul : (bools (thirds k j ++ xs.drop j)).length = xs.length := by rw [bools_len, List.length_append, thirds_len, List.length_drop]; omega
   have hug : (bools (thirds k j ++ xs.drop j))[j]? = some (.bool xs[j]) := bools_get (by rw [List.getElem?_append_right (by rw [thirds_len]; omega), thirds_len, Nat.sub_self, List.getElem?_drop]; simp [hj1])
   obtain ⟨bq, post, rfl, hp, Bq⟩ := O (fun e => by rw [e] at hul; simp at hul; omega)
   refine wp_skip ?_
   refine th_n (hK4 _ _ ?_)
   clear hK4 K4
   refine wp_seq_k fun K6 hK6 => ?_
   refine wp_block ?_
   refine wp_seq_k fun K7 hK7 => ?_
   refine Sb 21 rfl ?_  -- 4
   refine S_val (Y_move rfl) ?_
   refine S_val (Y_move rfl) ?_
   refine S_val (Y_move rfl) ?_
   refine S_val (Y_rem rfl rfl (by omega) (by decide) rfl) ?_
   refine S_val (Y_eql rfl rfl) ?_
   refine S_val (Y_index Try.underlying27 sz4 rfl rfl (by first | assumption | omega)) ?_
   refine S_stM (pre := (bools (thirds k j ++ xs.drop j)).take j) (old := [.bool xs[j]]) (post := (bools (thirds k j ++ xs.drop j)).drop (j + 1) ++ post) (vs := [_]) sz4 rfl rfl rfl rfl (by rw [← List.append_assoc, ← split_at hug]; exact Bq) (by rw [List.length_take, hul]; omega) rfl ?_
   intro w2 m2 X2
   replace Bq := Blk.eq X2 (by rw [← List.append_assoc, thirds_set hj1])
   clear X2
   replace G := Mod.trans' G m2 (fun _ h _ => h) (fun i h _ => by first | exact h | (subst h; exact ⟨by omega, rfl⟩))
   replace GL1 := GL1.trn m2
   have zm2 := m2.size
   refine S_nl rfl rfl ?_
   refine th_n (hK7 _ _ ?_)
   clear hK7 K7
   refine Sb 21 rfl ?_  -- 5
   refine S_val (Y_move rfl) ?_
   refine S_val (Y_add (c := k + ((j + 1 : Nat) : Int)) rfl rfl (by omega) (by omega) (by omega)) ?_
   refine S_val (Y_assign rfl) ?_
   refine S_nl rfl rfl ?_
   refine ib_n ?_
   refine th_n (hK6 _ _ ?_)
   clear hK6 K6
   refine Sb 21 rfl ?_  -- 3
   refine S_val (Y_move rfl) ?_
   refine S_val (Y_inc rfl rfl (by omega)) ?_
   refine S_val (Y_assign rfl) ?_
   refine S_nl rfl rfl ?_
   refine th_n ?_
   go_roundw  -- e1 of L1
   case rel =>
    refine ⟨?_, GL1⟩
    exact ⟨j + 1, rfl, rfl, by omega, OI.of_blk Bq hp⟩
   case measure =>
    exact dec_nat (by omega)
  · -- c1F
   replace hb1 := nb_tf hb1
   refine wp_exit ?_
   refine th_x ?_
   try clear GL1
   refine th_x ?_
   refine ib_e ?_
   refine th_n (hK2 _ _ ?_)
   clear hK4 K4 hK2 K2
   refine wp_seq_k fun K8 hK8 => ?_
   refine Sb 21 rfl ?_  -- 6
   refine S_val (Y_move rfl) ?_
   refine S_val (Y_assign rfl) ?_
   refine S_nl rfl rfl ?_
   refine th_n (hK8 _ _ ?_)
   clear hK8 K8
   refine wp_ret ?_
   refine ret_r1 rfl rfl ?_  -- r1
   have : j = n := by omega
   subst this
   exact ⟨rfl, by simpa [hn] using O, G⟩
set_option maxHeartbeats 400000 in
set_option maxRecDepth 20000 in
theorem laws_heldBoolS_c (Pr : Nat → Prop) (A : Option Addr) (n c : Nat) (k : Int) (w : World) (hA : R1 Pr w A (bools (thirds k n))) (hx : n ≤ 1048576) (hk : 0 ≤ k ∧ k ≤ 1099511627776) :
    Calls Try.prog 19 #[.slice A n c, .int .i64 k] w (Ret fun v w' => v = .int .i64 (k + (n : Int)) ∧ Grow w w') := by
 refine enter Try.func19 rfl Try.ntmps19 (L := [_,_,_,_,_,_,_,_,_,_,_,_,_,_,_,_,_,_,_,_,_,_,_]) rfl ?_
 have G := Mod.refl No w
 have hA0 := hA
 refine wp_seq_k fun K1 hK1 => ?_
 refine Sb 23 rfl ?_  -- 0
 refine S_val (Y_assign rfl) ?_
 refine S_nl rfl rfl ?_
 refine th_n (hK1 _ _ ?_)
 clear hK1 K1
 refine wp_seq_k fun K2 hK2 => ?_
 refine wp_seq_k fun K3 hK3 => ?_
 refine Sb 23 rfl ?_  -- 1
 refine S_val (Y_assign rfl) ?_
 refine S_nl rfl rfl ?_
 refine th_n (hK3 _ _ ?_)
 clear hK3 K3
 refine wp_block ?_
 go_loopw [1, 5] (fun u1 u5 wr => (∃ j : Nat, u5 = .int .i64 j ∧ u1 = .int .i64 (k + (j : Int)) ∧ j ≤ n) ∧ Mod No w wr) (fun u1 u5 wr => n - (intOf u5).toNat)  -- L1
 case atStart =>
  refine ⟨?_, Mod.refl _ _⟩
  exact ⟨0, rfl, by simp, by omega⟩
 case round =>
  obtain ⟨w1, rfl⟩ : ∃ x : World, x = wr := ⟨_, rfl⟩
  obtain ⟨hrel, g1⟩ := hrel
  replace hA := hA.grow g1
  replace G := G.grow g1
  have zg1 := g1.size
  obtain ⟨j, rfl, rfl, hj⟩ := hrel
  have GL1 := g1
  refine wp_seq_k fun K4 hK4 => ?_
  refine wp_seq_k fun K5 hK5 => ?_
  refine Sb 23 rfl ?_  -- 2
  refine S_val (Y_move rfl) ?_
  refine S_val (Y_move rfl) ?_
  refine S_val (Y_len Try.underlying27 rfl) ?_
  refine S_val (Y_lss rfl rfl) ?_
  refine S_nl rfl rfl ?_
  refine th_n (hK5 _ _ ?_)
  clear hK5 K5
  refine S_if rfl (fun hb1 => ?_) (fun hb1 => ?_)  -- c1
  · -- c1T
   replace hb1 := nb_tt hb1
   have hj1 : j < (thirds k n).length := by rw [thirds_len]; omega
   obtain ⟨g1, o1, rfl, hp1, hc1⟩ := hA.bool hj1
   rw [thirds_at] at hc1
   refine wp_skip ?_
   refine th_n (hK4 _ _ ?_)
   clear hK4 K4
   refine wp_seq_k fun K6 hK6 => ?_
   refine wp_block ?_
   refine wp_seq_k fun K7 hK7 => ?_
   refine wp_seq_k fun K8 hK8 => ?_
   refine Sb 23 rfl ?_  -- 4
   refine S_val (Y_move rfl) ?_
   refine S_val (Y_move rfl) ?_
   refine S_val (Y_index Try.underlying27 sz4 rfl rfl (by first | assumption | omega)) ?_
   refine S_val (Y_load Try.underlying4 rfl rfl (by first | assumption)) ?_  -- l1
   refine S_val (Y_move rfl) ?_
   refine S_val (Y_rem rfl rfl (by omega) (by decide) rfl) ?_
   refine S_val (Y_eql rfl rfl) ?_
   refine S_val (Y_neb Try.underlying4 rfl rfl) ?_
   refine S_nl rfl rfl ?_
   refine th_n (hK8 _ _ ?_)
   clear hK8 K8
   refine S_if rfl (fun hb2 => ?_) (fun hb2 => ?_)  -- c2
   · -- c2T
    replace hb2 := nb_nt hb2
    exact absurd rfl hb2
   · -- c2F
    replace hb2 := nb_nf hb2
    refine wp_skip ?_
    refine th_n (hK7 _ _ ?_)
    clear hK7 K7
    refine Sb 23 rfl ?_  -- 6
    refine S_val (Y_move rfl) ?_
    refine S_val (Y_add (c := k + ((j + 1 : Nat) : Int)) rfl rfl (by omega) (by omega) (by omega)) ?_
    refine S_val (Y_assign rfl) ?_
    refine S_nl rfl rfl ?_
    refine ib_n ?_
    refine th_n (hK6 _ _ ?_)
    clear hK6 K6
    refine Sb 23 rfl ?_  -- 3
    refine S_val (Y_move rfl) ?_
    refine S_val (Y_inc rfl rfl (by omega)) ?_
    refine S_val (Y_assign rfl) ?_
    refine S_nl rfl rfl ?_
    refine th_n ?_
    go_roundw  -- e1 of L1
    case rel =>
     refine ⟨?_, GL1⟩
     exact ⟨j + 1, rfl, rfl, by omega⟩
    case measure =>
     exact dec_nat (by omega)
  · -- c1F
   replace hb1 := nb_tf hb1
   refine wp_exit ?_
   refine th_x ?_
   try clear GL1
   refine th_x ?_
   refine ib_e ?_
   refine th_n (hK2 _ _ ?_)
   clear hK4 K4 hK2 K2
   refine wp_seq_k fun K9 hK9 => ?_
   refine Sb 23 rfl ?_  -- 7
   refine S_val (Y_move rfl) ?_
   refine S_val (Y_assign rfl) ?_
   refine S_nl rfl rfl ?_
   refine th_n (hK9 _ _ ?_)
   clear hK9 K9
   refine wp_ret ?_
   refine ret_r1 rfl rfl ?_  -- r1
   have : j = n := by omega
   subst this
   exact ⟨rfl, G⟩
set_option maxHeartbeats 400000 in
set_option maxRecDepth 20000 in
theorem laws_markCellS_c (Pr : Nat → Prop) (A : Option Addr) (cs : List LC) (rs : List (Option Addr × Nat)) (n c : Nat) (k : Int) (w : World) (O : OC Pr w 63 3 A cs rs) (hn : n = cs.length) (hx : n ≤ 1048576) (hr : rsum cs cs.length ≤ 1048576) (hk : 0 ≤ k ∧ k ≤ 549755813888) :
    Calls Try.prog 65 #[.slice A n c, .int .i64 k] w (Ret fun v w' => v = .int .i64 (kAt k cs n) ∧ OC Pr w' 63 3 A (mkC k cs) rs ∧ Mod Pr w w') := by
 have hne : (63 : TypeId) ≠ 3 := by decide
 refine enter Try.func65 rfl Try.ntmps65 (L := [_,_,_,_,_,_,_,_,_,_,_,_,_,_,_,_,_,_,_,_,_,_,_,_,_,_,_,_,_,_,_,_,_,_,_,_]) rfl ?_
 have G := Mod.refl Pr w
 refine wp_seq_k fun K1 hK1 => ?_
 refine Sb 36 rfl ?_  -- 0
 refine S_val (Y_assign rfl) ?_
 refine S_nl rfl rfl ?_
 refine th_n (hK1 _ _ ?_)
 clear hK1 K1
 refine wp_seq_k fun K2 hK2 => ?_
 refine wp_seq_k fun K3 hK3 => ?_
 refine Sb 36 rfl ?_  -- 1
 refine S_val (Y_assign rfl) ?_
 refine S_nl rfl rfl ?_
 refine th_n (hK3 _ _ ?_)
 clear hK3 K3
 refine wp_block ?_
 go_loopw [1, 5] (fun u1 u5 wr => (∃ j : Nat, u5 = .int .i64 j ∧ u1 = .int .i64 (kAt k cs j) ∧ j ≤ n ∧ OC Pr wr 63 3 A (midC k cs j) rs) ∧ Mod Pr w wr) (fun u1 u5 wr => n - (intOf u5).toNat)  -- L1
 case atStart =>
  refine ⟨?_, Mod.refl _ _⟩
  exact ⟨0, rfl, by rw [kAt_zero], by omega, by rw [midC_zero]; exact O⟩
 case round =>
  obtain ⟨w1, rfl⟩ : ∃ x : World, x = wr := ⟨_, rfl⟩
  obtain ⟨hrel, g1⟩ := hrel
  clear O
  replace G := Mod.trans' G g1 (fun _ h _ => h) (fun i h _ => by first | exact h | exact hpr i h | (subst h; exact hpq))
  have zg1 := g1.size
  obtain ⟨j, rfl, rfl, hj, O⟩ := hrel
  have GL1 := g1
  refine wp_seq_k fun K4 hK4 => ?_
  refine wp_seq_k fun K5 hK5 => ?_
  refine Sb 36 rfl ?_  -- 2
  refine S_val (Y_move rfl) ?_
  refine S_val (Y_move rfl) ?_
  refine S_val (Y_len Try.underlying30 rfl) ?_
  refine S_val (Y_lss rfl rfl) ?_
  refine S_nl rfl rfl ?_
  refine th_n (hK5 _ _ ?_)
  clear hK5 K5
  refine S_if rfl (fun hb1 => ?_) (fun hb1 => ?_)  -- c1
  · -- c1T
   replace hb1 := nb_tt hb1
   have hj1 : j < cs.length := by omega
   have hml := midC_len (k := k) (Nat.le_of_lt hj1)
   have hk1 := kAt_ge k cs j
   have hk2 := kAt_le (k := k) (cs := cs) (j := j) (by omega)
   have hrj := hsub hj1 hr
   obtain ⟨gq, post, rfl, hpq, Bq⟩ := O.blk (fun e => by rw [e] at hml; simp at hml; omega)
   have OR := O.rows
   have hcj := midC_get (k := k) hj1
   obtain ⟨r, hrr⟩ : ∃ r, rs[j]? = some r := ⟨_, List.getElem?_eq_getElem (by rw [OR.len]; omega)⟩
   have hlr := OR.len
   have hpl := flat_pre (k := j) hlr (by omega)
   rw [flat_one hlr hcj hrr] at Bq
   refine wp_skip ?_
   refine th_n (hK4 _ _ ?_)
   clear hK4 K4
   refine wp_seq_k fun K6 hK6 => ?_
   refine wp_block ?_
   refine wp_seq_k fun K7 hK7 => ?_
   refine Sb 36 rfl ?_  -- 4
   refine S_val (Y_move rfl) ?_
   refine S_val (Y_move rfl) ?_
   refine S_val (Y_move rfl) ?_
   refine S_val (Y_rem rfl rfl (by omega) (by decide) rfl) ?_
   refine S_val (Y_eql rfl rfl) ?_
   refine S_val (Y_index Try.underlying30 sz63 rfl rfl (by first | assumption | omega)) ?_
   refine S_val (Y_field Try.underlying63 rfl fz63_0 (by decide) rfl) ?_
   refine S_stM (pre := flatC ((midC k cs j).take j) (rs.take j)) (old := [_]) (vs := [_]) sz4 rfl rfl rfl rfl Bq (by rw [hpl]; show j * 3 = 0 + j * 3 + 0; omega) rfl ?_
   intro w2 m2 X2
   replace OR := OR.modT Bq hne m2
   replace Bq := X2
   clear X2
   replace G := Mod.trans' G m2 (fun _ h _ => h) (fun i h _ => by first | exact h | exact hpr i h | (subst h; exact hpq))
   replace GL1 := Mod.trans' GL1 m2 (fun _ h _ => h) (fun i h _ => by first | exact h | omega | (dsimp only at h ⊢; omega) | (subst h; rfl) | (subst h; exact ⟨by omega, rfl⟩) | exact hpr i h | (subst h; exact hpq))
   have zm2 := m2.size
   refine S_nl rfl rfl ?_
   refine th_n (hK7 _ _ ?_)
   clear hK7 K7
   refine wp_seq_k fun K8 hK8 => ?_
   refine Sb 36 rfl ?_  -- 5
   refine S_val (Y_move rfl) ?_
   refine S_val (Y_add rfl rfl rfl (by omega) (by omega)) ?_
   refine S_val (Y_assign rfl) ?_
   refine S_nl rfl rfl ?_
   refine th_n (hK8 _ _ ?_)
   clear hK8 K8
   refine wp_seq_k fun K9 hK9 => ?_
   refine Sb 36 rfl ?_  -- 6
   refine S_val (Y_move rfl) ?_
   refine S_val (Y_move rfl) ?_
   refine S_val (Y_move rfl) ?_
   refine S_val (Y_index Try.underlying30 sz63 rfl rfl (by first | assumption | omega)) ?_
   refine S_val (Y_field Try.underlying63 rfl fz63_1 (by decide) rfl) ?_
   refine S_stM (pre := flatC ((midC k cs j).take j) (rs.take j) ++ [.bool (decide (kAt k cs j % 3 = 0))]) (old := [.int .i64 cs[j].data]) (post := [.slice r.1 cs[j].refs.length r.2] ++ (flatC ((midC k cs j).drop (j + 1)) (rs.drop (j + 1)) ++ post)) (vs := [_]) sz3 rfl rfl rfl rfl (by rw [List.append_assoc]; exact Bq) (by rw [List.length_append, hpl]; show j * 3 + 1 = 0 + j * 3 + 1; omega) rfl ?_
   intro w3 m3 X3
   replace OR := OR.modT Bq hne m3
   replace Bq := X3
   clear X3
   replace G := Mod.trans' G m3 (fun _ h _ => h) (fun i h _ => by first | exact h | exact hpr i h | (subst h; exact hpq))
   replace GL1 := Mod.trans' GL1 m3 (fun _ h _ => h) (fun i h _ => by first | exact h | omega | (dsimp only at h ⊢; omega) | (subst h; rfl) | (subst h; exact ⟨by omega, rfl⟩) | exact hpr i h | (subst h; exact hpq))
   have zm3 := m3.size
   have hown := OR.own j _ _ hcj hrr
   have hcc : w3.cell? ⟨gq, 0 + j * 3 + 2, none⟩ = some (.slice r.1 cs[j].refs.length r.2) := by
     refine Bq.at ?_
     rw [List.getElem?_toArray, List.getElem?_append_right (by rw [List.length_append, List.length_append, hpl]; simp; try omega)]
     rw [show 0 + j * 3 + 2 - (flatC ((midC k cs j).take j) (rs.take j) ++ [Value.bool (decide (kAt k cs j % 3 = 0))] ++ [Value.int .i64 (kAt k cs j + 1)]).length = 0 by rw [List.length_append, List.length_append, hpl]; simp; try omega]
     rfl
   have hpr : ∀ i, (0 < cs[j].refs.length ∧ r.1 = some ⟨i, 0, none⟩) → Pr i := fun i hi => by
     obtain ⟨b0, _, e0, p0, _⟩ := hown (ints_ne.2 (fun e => by rw [e] at hi; exact absurd hi.1 (by simp)))
     rw [hi.2] at e0
     cases e0
     exact p0
   refine S_nl rfl rfl ?_
   refine th_n (hK9 _ _ ?_)
   clear hK9 K9
   refine wp_seq_k fun K10 hK10 => ?_
   refine Sb 36 rfl ?_  -- 7
   refine S_val (Y_move rfl) ?_
   refine S_val (Y_add rfl rfl rfl (by omega) (by omega)) ?_
   refine S_val (Y_assign rfl) ?_
   refine S_nl rfl rfl ?_
   refine th_n (hK10 _ _ ?_)
   clear hK10 K10
   refine Sb 36 rfl ?_  -- 8
   refine S_val (Y_move rfl) ?_
   refine S_val (Y_move rfl) ?_
   refine S_val (Y_index Try.underlying30 sz63 rfl rfl (by first | assumption | omega)) ?_
   refine S_val (Y_field Try.underlying63 rfl fz63_2 (by decide) rfl) ?_
   refine S_val (Y_load Try.underlying23 rfl rfl hcc) ?_  -- l1
   refine S_val (Y_move rfl) ?_
   refine S_call rfl en66 (laws_markIntS_c _ _ _ _ _ _ _ (by assumption) (by omega) (by omega) ⟨by omega, by omega⟩) ?_  -- k1 laws.markIntS
   rintro v4 w4 ⟨rfl, O4, m4⟩
   have OR2 := OR.mark hcj hrr m4 (c' := mkc (kAt k cs j) cs[j].refs.length) O4 (by simp [mkc, iota_len])
   have hoff := OR.off hcj hrr Bq hne
   replace Bq := Bq.mod m4 hoff
   replace G := Mod.trans' G m4 (fun _ h _ => h) (fun i h _ => by first | exact h | exact hpr i h | (subst h; exact hpq))
   replace GL1 := Mod.trans' GL1 m4 (fun _ h _ => h) (fun i h _ => by first | exact h | omega | (dsimp only at h ⊢; omega) | (subst h; rfl) | (subst h; exact ⟨by omega, rfl⟩) | exact hpr i h | (subst h; exact hpq))
   have zm4 := m4.size
   refine S_val (Y_assign rfl) ?_
   refine S_nl rfl rfl ?_
   refine ib_n ?_
   refine th_n (hK6 _ _ ?_)
   clear hK6 K6
   refine Sb 36 rfl ?_  -- 3
   refine S_val (Y_move rfl) ?_
   refine S_val (Y_inc rfl rfl (by omega)) ?_
   refine S_val (Y_assign rfl) ?_
   refine S_nl rfl rfl ?_
   refine th_n ?_
   go_roundw  -- e1 of L1
   case rel =>
    refine ⟨?_, GL1⟩
    refine ⟨j + 1, rfl, by rw [kAt_succ hj1], by omega, ?_⟩
    rw [← midC_set hj1]
    exact ⟨OR2.weak (fun i hi => hi), fun _ => ⟨gq, _, rfl, hpq, Blk.eq Bq (by have hfs := flat_set hlr (by omega) hrr (c := mkc (kAt k cs j) cs[j].refs.length) (post := post); rw [← hfs]; simp [mkc, iota_len])⟩⟩
   case measure =>
    exact dec_nat (by omega)
  · -- c1F
   replace hb1 := nb_tf hb1
   refine wp_exit ?_
   refine th_x ?_
   try clear GL1
   refine th_x ?_
   refine ib_e ?_
   refine th_n (hK2 _ _ ?_)
   clear hK4 K4 hK2 K2
   refine wp_seq_k fun K11 hK11 => ?_
   refine Sb 36 rfl ?_  -- 9
   refine S_val (Y_move rfl) ?_
   refine S_val (Y_assign rfl) ?_
   refine S_nl rfl rfl ?_
   refine th_n (hK11 _ _ ?_)
   clear hK11 K11
   refine wp_ret ?_
   refine ret_r1 rfl rfl ?_  -- r1
   have : j = n := by omega
   subst this
   rw [midC_all (by omega)] at O
   exact ⟨rfl, O, G⟩
set_option maxHeartbeats 400000 in
set_option maxRecDepth 20000 in
theorem laws_markHeap_c (Pr : Nat → Prop) (A B : Option Addr) (h : LH) (rs : List (Option Addr × Nat)) (c d : Nat) (k : Int) (w : World) (O : OH Pr w 63 3 A B h rs) (hz : hsize h ≤ 1048576) (hk : 0 ≤ k ∧ k ≤ 274877906944) :
    Calls Try.prog 17 #[.agg #[.slice A h.cells.length c, .slice B h.roots.length d], .int .i64 k] w (Ret fun v w' => v = .int .i64 (kEnd k h) ∧ OH Pr w' 63 3 A B (mkH k h) rs ∧ Mod Pr w w') := by
 have hne : (63 : TypeId) ≠ 3 := by decide
 replace O := O.lt
 have hz1 := hsize_cells h
 have hz2 := hsize_roots h
 have hz4 : rsum h.cells h.cells.length ≤ hsize h := by unfold hsize; omega
 have hk2 := kAt_le (k := k) (cs := h.cells) (j := h.cells.length) (Nat.le_refl _)
 have hk3 := kAt_ge k h.cells h.cells.length
 refine enter Try.func17 rfl Try.ntmps17 (L := [_,_,_,_,_,_,_,_,_,_,_,_,_,_]) rfl ?_
 have G := Mod.refl Pr w
 refine wp_seq_k fun K1 hK1 => ?_
 refine Sb 14 rfl ?_  -- 0
 refine S_box (cs := [_, _]) rfl rfl ?_
 intro b1 w1 fb1 g1 B1
 have lb1 := B1.lt
 replace O := O.grow g1
 replace G := G.grow g1
 have zg1 := g1.size
 refine S_val (Y_assign rfl) ?_
 refine S_nl rfl rfl ?_
 refine th_n (hK1 _ _ ?_)
 clear hK1 K1
 refine wp_seq_k fun K2 hK2 => ?_
 refine Sb 14 rfl ?_  -- 1
 refine S_val (Y_field Try.underlying32 rfl fz32_0 (by decide) rfl) ?_
 refine S_val (Y_load Try.underlying30 rfl rfl (B1.at (by rfl))) ?_  -- l1
 refine S_val (Y_move rfl) ?_
 refine S_call rfl en65 (laws_markCellS_c _ _ _ _ _ _ _ _ (O.split hne) rfl (by omega) (by omega) ⟨by omega, by omega⟩) ?_  -- k1 laws.markCellS
 rintro v2 w2 ⟨rfl, O2, m2⟩
 have OR := O.roots.keep m2 (fun b e1 e2 e3 => e3.2 ⟨e1, ints_ne.1 e2⟩)
 have hpr : ∀ i, (0 < h.roots.length ∧ B = some ⟨i, 0, none⟩) → Pr i ∧ i < w.heap.size := fun i hi => by
   obtain ⟨b0, _, e0, p0, _⟩ := O.roots (ints_ne.2 (fun e => by rw [e] at hi; exact absurd hi.1 (by simp)))
   rw [hi.2] at e0
   cases e0
   exact p0
 have O0 := O
 have OC := O2
 replace G := Mod.trans' G m2 (fun _ h _ => h) (fun i h _ => by first | exact h.1.1 | exact (hpr i h).1)
 replace B1 := B1.mod m2 (by intro h; first | omega | (dsimp only at h; omega) | (have h2 := h.1.2; omega) | (have h2 := hpr _ h; omega))
 have zm2 := m2.size
 refine S_val (Y_assign rfl) ?_
 refine S_nl rfl rfl ?_
 refine th_n (hK2 _ _ ?_)
 clear hK2 K2
 refine wp_seq_k fun K3 hK3 => ?_
 refine Sb 14 rfl ?_  -- 2
 refine S_val (Y_field Try.underlying32 rfl fz32_1 (by decide) rfl) ?_
 refine S_val (Y_load Try.underlying23 rfl rfl (B1.at (by rfl))) ?_  -- l2
 refine S_val (Y_move rfl) ?_
 refine S_call rfl en66 (laws_markIntS_c _ _ _ _ _ _ _ OR rfl (by omega) ⟨by omega, by omega⟩) ?_  -- k2 laws.markIntS
 rintro v3 w3 ⟨rfl, O3, m3⟩
 replace OC := OC.mod m3 (fun i hi hs => hi.2 ⟨hs.2, fun e => by rw [e] at hs; exact absurd hs.1 (by simp)⟩)
 replace G := Mod.trans' G m3 (fun _ h _ => h) (fun i h _ => by first | exact h.1.1 | exact (hpr i h).1)
 replace B1 := B1.mod m3 (by intro h; first | omega | (dsimp only at h; omega) | (have h2 := h.1.2; omega) | (have h2 := hpr _ h; omega))
 have zm3 := m3.size
 refine S_val (Y_assign rfl) ?_
 refine S_nl rfl rfl ?_
 refine th_n (hK3 _ _ ?_)
 clear hK3 K3
 refine wp_seq_k fun K4 hK4 => ?_
 refine Sb 14 rfl ?_  -- 3
 refine S_val (Y_move rfl) ?_
 refine S_val (Y_assign rfl) ?_
 refine S_nl rfl rfl ?_
 refine th_n (hK4 _ _ ?_)
 clear hK4 K4
 refine wp_ret ?_
 refine ret_r1 rfl rfl ?_  -- r1
 exact ⟨rfl, (O0.join OC (by assumption)).weak (fun _ h => h.1), G⟩
theorem markBoolS_p (Pr : Nat → Prop) (A : Option Addr) (xs : List Bool) (n c : Nat) (k : Int) (w : World) (O : OI Pr w 4 A (bools xs)) (hn : n = xs.length) (hx : n ≤ 1048576) (hk : 0 ≤ k ∧ k ≤ 1099511627776) :
    Calls Try.prog 18 #[.slice A n c, .int .i64 k] w (Ret fun v w' => v = .int .i64 (k + (n : Int)) ∧ OI Pr w' 4 A (bools (thirds k n)) ∧ Mod Pr w w') :=
  (laws_markBoolS_c Pr A xs n c k w O hn hx hk).mono fun _ _ ⟨v, he, h1, h2, h3⟩ => ⟨v, he, h1, h2, h3.weak fun i hi _ => by
    obtain ⟨b0, _, e0, p0, _⟩ := O (fun e => by
      have h0 := congrArg List.length e
      rw [bools_len] at h0
      simp at h0
      rw [h0] at hn
      simp at hn
      omega)
    rw [hi.2] at e0
    cases e0
    exact p0⟩
end
/-! WalkN -/
section
open Go Go.RowKit
attribute [local irreducible] wpList wpAnyH Code.wp dOp
set_option maxHeartbeats 400000 in
set_option maxRecDepth 20000 in
theorem spec_CommandValid_c (op a b c : Int) (w : World) :
    Calls Try.prog 125 #[.agg #[.int .i64 op, .int .i64 a, .int .i64 b, .int .i64 c]] w (Ret fun v w' => v = .bool (cvB ⟨op, a, b, c⟩) ∧ Grow w w') := by
 refine enter Try.func125 rfl Try.ntmps125 (L := [_,_,_,_,_,_,_,_,_,_,_,_,_,_,_,_,_,_,_,_,_,_,_,_,_,_,_,_,_,_,_,_,_,_,_,_,_,_,_,_,_,_,_,_,_,_,_,_,_,_,_,_,_,_,_,_,_,_,_,_,_,_,_,_,_,_,_,_,_,_,_,_,_,_,_]) rfl ?_
 have G := Mod.refl No w
 refine wp_seq_k fun K1 hK1 => ?_
 refine Sb 75 rfl ?_  -- 0
 refine S_box (cs := [_, _, _, _]) rfl rfl ?_
 intro b1 w1 fb1 g1 B1
 have lb1 := B1.lt
 replace G := G.grow g1
 have zg1 := g1.size
 refine S_val (Y_assign rfl) ?_
 refine S_nl rfl rfl ?_
 refine th_n (hK1 _ _ ?_)
 clear hK1 K1
 refine wp_seq_k fun K2 hK2 => ?_
 refine Sb 75 rfl ?_  -- 1
 refine S_val (Y_field Try.underlying133 rfl fz133_1 (by decide) rfl) ?_
 refine S_val (Y_load Try.underlying3 rfl rfl (B1.at (by rfl))) ?_  -- l1
 refine S_call rfl en52 (spec_l1In_c _ _ _ _) ?_  -- k1 spec.l1In
 rintro v w' ⟨rfl, rfl⟩
 refine S_val (Y_assign rfl) ?_
 refine S_nl rfl rfl ?_
 refine th_n (hK2 _ _ ?_)
 clear hK2 K2
 refine wp_seq_k fun K3 hK3 => ?_
 refine Sb 75 rfl ?_  -- 2
 refine S_val (Y_field Try.underlying133 rfl fz133_2 (by decide) rfl) ?_
 refine S_val (Y_load Try.underlying3 rfl rfl (B1.at (by rfl))) ?_  -- l2
 refine S_call rfl en52 (spec_l1In_c _ _ _ _) ?_  -- k2 spec.l1In
 rintro v w' ⟨rfl, rfl⟩
 refine S_val (Y_assign rfl) ?_
 refine S_nl rfl rfl ?_
 refine th_n (hK3 _ _ ?_)
 clear hK3 K3
 refine wp_seq_k fun K4 hK4 => ?_
 refine wp_seq_k fun K5 hK5 => ?_
 refine Sb 75 rfl ?_  -- 3
 refine S_val (Y_field Try.underlying133 rfl fz133_0 (by decide) rfl) ?_
 refine S_val (Y_load Try.underlying3 rfl rfl (B1.at (by rfl))) ?_  -- l3
 refine S_nl rfl rfl ?_
 refine th_n (hK5 _ _ ?_)
 clear hK5 K5
 refine wp_block ?_
 refine wp_seq_k fun K6 hK6 => ?_
 refine Sb 75 rfl ?_  -- 4
 refine S_val (Y_eql rfl rfl) ?_
 refine S_val (Y_assign rfl) ?_
 refine S_nl rfl rfl ?_
 refine th_n (hK6 _ _ ?_)
 clear hK6 K6
 refine S_if rfl (fun hb1 => ?_) (fun hb1 => ?_)  -- c1
 · -- c1T
  replace hb1 := nb_tt hb1
  refine wp_seq_k fun K7 hK7 => ?_
  refine Sb 75 rfl ?_  -- 5
  refine S_val (Y_move rfl) ?_
  refine S_val (Y_move rfl) ?_
  refine S_g 16 rfl (fun hb2 => ?_) (fun hb2 => ?_)  -- g1
  · -- g1T
   first | with_reducible (replace hb2 := nb_nt hb2) | with_reducible (replace hb2 := nb_tt hb2) | with_reducible (replace hb2 := nb_bt hb2) | skip
   refine S_on rfl rfl ?_
   refine S_val (Y_field Try.underlying133 rfl fz133_2 (by decide) rfl) ?_
   refine S_on rfl rfl ?_
   refine S_val (Y_load Try.underlying3 rfl rfl (B1.at (by rfl))) ?_  -- l4
   refine S_on rfl rfl ?_
   refine S_call rfl en52 (spec_l1In_c _ _ _ _) ?_  -- k3 spec.l1In
   rintro v w' ⟨rfl, rfl⟩
   refine S_val (Y_pickT rfl rfl) ?_
   refine S_val (Y_move rfl) ?_
   refine S_g 21 rfl (fun hb3 => ?_) (fun hb3 => ?_)  -- g2
   · -- g2T
    first | with_reducible (replace hb3 := nb_nt hb3) | with_reducible (replace hb3 := nb_tt hb3) | with_reducible (replace hb3 := nb_bt hb3) | skip
    refine S_on rfl rfl ?_
    refine S_val (Y_field Try.underlying133 rfl fz133_3 (by decide) rfl) ?_
    refine S_on rfl rfl ?_
    refine S_val (Y_load Try.underlying3 rfl rfl (B1.at (by rfl))) ?_  -- l5
    refine S_on rfl rfl ?_
    refine S_call rfl en52 (spec_l1In_c _ _ _ _) ?_  -- k4 spec.l1In
    rintro v w' ⟨rfl, rfl⟩
    refine S_val (Y_pickT rfl rfl) ?_
    refine S_val (Y_assign rfl) ?_
    refine S_nl rfl rfl ?_
    refine th_n (hK7 _ _ ?_)
    clear hK7 K7
    refine wp_ret ?_
    refine ib_r ?_
    refine th_r ?_
    clear hK4 K4
    refine ret_r1 rfl rfl ?_  -- r1
    exact ⟨by first | exact cvB_f (by unfold cvP; dsimp only; omega) | exact cvB_d (by unfold cvP; dsimp only; omega) | exact cvB_t (by unfold cvP; dsimp only; omega), G⟩
   · -- g2F
    first | with_reducible (replace hb3 := nb_nf hb3) | with_reducible (replace hb3 := nb_tf hb3) | with_reducible (replace hb3 := nb_bf hb3) | skip
    refine S_off rfl rfl ?_
    refine S_off rfl rfl ?_
    refine S_off rfl rfl ?_
    refine S_val (Y_pickF rfl rfl) ?_
    refine S_val (Y_assign rfl) ?_
    refine S_nl rfl rfl ?_
    refine th_n (hK7 _ _ ?_)
    clear hK7 K7
    refine wp_ret ?_
    refine ib_r ?_
    refine th_r ?_
    clear hK4 K4
    refine ret_r1 rfl rfl ?_  -- r2
    exact ⟨by first | exact cvB_f (by unfold cvP; dsimp only; omega) | exact cvB_d (by unfold cvP; dsimp only; omega) | exact cvB_t (by unfold cvP; dsimp only; omega), G⟩
  · -- g1F
   first | with_reducible (replace hb2 := nb_nf hb2) | with_reducible (replace hb2 := nb_tf hb2) | with_reducible (replace hb2 := nb_bf hb2) | skip
   refine S_off rfl rfl ?_
   refine S_off rfl rfl ?_
   refine S_off rfl rfl ?_
   refine S_val (Y_pickF rfl rfl) ?_
   refine S_val (Y_move rfl) ?_
   refine S_off rfl rfl ?_
   refine S_off rfl rfl ?_
   refine S_off rfl rfl ?_
   refine S_val (Y_pickF rfl rfl) ?_
   refine S_val (Y_assign rfl) ?_
   refine S_nl rfl rfl ?_
   refine th_n (hK7 _ _ ?_)
   clear hK7 K7
   refine wp_ret ?_
   refine ib_r ?_
   refine th_r ?_
   clear hK4 K4
   refine ret_r1 rfl rfl ?_  -- r3
   exact ⟨by first | exact cvB_f (by unfold cvP; dsimp only; omega) | exact cvB_d (by unfold cvP; dsimp only; omega) | exact cvB_t (by unfold cvP; dsimp only; omega), G⟩
 · -- c1F
  replace hb1 := nb_tf hb1
  refine wp_seq_k fun K8 hK8 => ?_
  refine wp_seq_k fun K9 hK9 => ?_
  refine Sb 75 rfl ?_  -- 6
  refine S_val (Y_eql rfl rfl) ?_
  refine S_val (Y_assign rfl) ?_
  refine S_nl rfl rfl ?_
  refine th_n (hK9 _ _ ?_)
  clear hK9 K9
  refine S_if rfl (fun hb2 => ?_) (fun hb2 => ?_)  -- c2
  · -- c2T
   replace hb2 := nb_tt hb2
   refine wp_skip ?_
   refine th_n (hK8 _ _ ?_)
   clear hK8 K8
   refine S_if rfl (fun hb3 => ?_) (fun hb3 => ?_)  -- c3
   · -- c3T
    replace hb3 := nb_tt hb3
    refine wp_seq_k fun K10 hK10 => ?_
    refine Sb 75 rfl ?_  -- 8
    refine S_val (Y_move rfl) ?_
    refine S_val (Y_move rfl) ?_
    refine S_g 30 rfl (fun hb4 => ?_) (fun hb4 => ?_)  -- g3
    · -- g3T
     first | with_reducible (replace hb4 := nb_nt hb4) | with_reducible (replace hb4 := nb_tt hb4) | with_reducible (replace hb4 := nb_bt hb4) | skip
     refine S_on rfl rfl ?_
     refine S_val (Y_move rfl) ?_
     refine S_val (Y_pickT rfl rfl) ?_
     refine S_val (Y_move rfl) ?_
     refine S_g 33 rfl (fun hb5 => ?_) (fun hb5 => ?_)  -- g4
     · -- g4T
      first | with_reducible (replace hb5 := nb_nt hb5) | with_reducible (replace hb5 := nb_tt hb5) | with_reducible (replace hb5 := nb_bt hb5) | skip
      refine S_on rfl rfl ?_
      refine S_val (Y_field Try.underlying133 rfl fz133_3 (by decide) rfl) ?_
      refine S_on rfl rfl ?_
      refine S_val (Y_load Try.underlying3 rfl rfl (B1.at (by rfl))) ?_  -- l6
      refine S_on rfl rfl ?_
      refine S_call rfl en52 (spec_l1In_c _ _ _ _) ?_  -- k5 spec.l1In
      rintro v w' ⟨rfl, rfl⟩
      refine S_val (Y_pickT rfl rfl) ?_
      refine S_val (Y_assign rfl) ?_
      refine S_nl rfl rfl ?_
      refine th_n (hK10 _ _ ?_)
      clear hK10 K10
      refine wp_ret ?_
      refine ib_r ?_
      refine th_r ?_
      clear hK4 K4
      refine ret_r1 rfl rfl ?_  -- r4
      exact ⟨by first | exact cvB_f (by unfold cvP; dsimp only; omega) | exact cvB_d (by unfold cvP; dsimp only; omega) | exact cvB_t (by unfold cvP; dsimp only; omega), G⟩
     · -- g4F
      first | with_reducible (replace hb5 := nb_nf hb5) | with_reducible (replace hb5 := nb_tf hb5) | with_reducible (replace hb5 := nb_bf hb5) | skip
      refine S_off rfl rfl ?_
      refine S_off rfl rfl ?_
      refine S_off rfl rfl ?_
      refine S_val (Y_pickF rfl rfl) ?_
      refine S_val (Y_assign rfl) ?_
      refine S_nl rfl rfl ?_
      refine th_n (hK10 _ _ ?_)
      clear hK10 K10
      refine wp_ret ?_
      refine ib_r ?_
      refine th_r ?_
      clear hK4 K4
      refine ret_r1 rfl rfl ?_  -- r5
      exact ⟨by first | exact cvB_f (by unfold cvP; dsimp only; omega) | exact cvB_d (by unfold cvP; dsimp only; omega) | exact cvB_t (by unfold cvP; dsimp only; omega), G⟩
    · -- g3F
     first | with_reducible (replace hb4 := nb_nf hb4) | with_reducible (replace hb4 := nb_tf hb4) | with_reducible (replace hb4 := nb_bf hb4) | skip
     refine S_off rfl rfl ?_
     refine S_val (Y_pickF rfl rfl) ?_
     refine S_val (Y_move rfl) ?_
     refine S_off rfl rfl ?_
     refine S_off rfl rfl ?_
     refine S_off rfl rfl ?_
     refine S_val (Y_pickF rfl rfl) ?_
     refine S_val (Y_assign rfl) ?_
     refine S_nl rfl rfl ?_
     refine th_n (hK10 _ _ ?_)
     clear hK10 K10
     refine wp_ret ?_
     refine ib_r ?_
     refine th_r ?_
     clear hK4 K4
     refine ret_r1 rfl rfl ?_  -- r6
     exact ⟨by first | exact cvB_f (by unfold cvP; dsimp only; omega) | exact cvB_d (by unfold cvP; dsimp only; omega) | exact cvB_t (by unfold cvP; dsimp only; omega), G⟩
   · -- c3F
    replace hb3 := nb_tf hb3
    refine wp_seq_k fun K11 hK11 => ?_
    refine Sb 75 rfl ?_  -- 9
    refine S_val (Y_eql rfl rfl) ?_
    refine S_val (Y_assign rfl) ?_
    refine S_nl rfl rfl ?_
    refine th_n (hK11 _ _ ?_)
    clear hK11 K11
    refine S_if rfl (fun hb4 => ?_) (fun hb4 => ?_)  -- c4
    · -- c4T
     replace hb4 := nb_tt hb4
     refine wp_seq_k fun K12 hK12 => ?_
     refine Sb 75 rfl ?_  -- 10
     refine S_val (Y_move rfl) ?_
     refine S_val (Y_move rfl) ?_
     refine S_g 41 rfl (fun hb5 => ?_) (fun hb5 => ?_)  -- g5
     · -- g5T
      first | with_reducible (replace hb5 := nb_nt hb5) | with_reducible (replace hb5 := nb_tt hb5) | with_reducible (replace hb5 := nb_bt hb5) | skip
      refine S_on rfl rfl ?_
      refine S_val (Y_move rfl) ?_
      refine S_val (Y_pickT rfl rfl) ?_
      refine S_val (Y_move rfl) ?_
      refine S_g 44 rfl (fun hb6 => ?_) (fun hb6 => ?_)  -- g6
      · -- g6T
       first | with_reducible (replace hb6 := nb_nt hb6) | with_reducible (replace hb6 := nb_tt hb6) | with_reducible (replace hb6 := nb_bt hb6) | skip
       refine S_on rfl rfl ?_
       refine S_val (Y_field Try.underlying133 rfl fz133_3 (by decide) rfl) ?_
       refine S_on rfl rfl ?_
       refine S_val (Y_load Try.underlying3 rfl rfl (B1.at (by rfl))) ?_  -- l7
       refine S_on rfl rfl ?_
       refine S_val (Y_eql rfl rfl) ?_
       refine S_val (Y_pickT rfl rfl) ?_
       refine S_val (Y_assign rfl) ?_
       refine S_nl rfl rfl ?_
       refine th_n (hK12 _ _ ?_)
       clear hK12 K12
       refine wp_ret ?_
       refine ib_r ?_
       refine th_r ?_
       clear hK4 K4
       refine ret_r1 rfl rfl ?_  -- r7
       exact ⟨by first | exact cvB_f (by unfold cvP; dsimp only; omega) | exact cvB_d (by unfold cvP; dsimp only; omega) | exact cvB_t (by unfold cvP; dsimp only; omega), G⟩
      · -- g6F
       first | with_reducible (replace hb6 := nb_nf hb6) | with_reducible (replace hb6 := nb_tf hb6) | with_reducible (replace hb6 := nb_bf hb6) | skip
       refine S_off rfl rfl ?_
       refine S_off rfl rfl ?_
       refine S_off rfl rfl ?_
       refine S_val (Y_pickF rfl rfl) ?_
       refine S_val (Y_assign rfl) ?_
       refine S_nl rfl rfl ?_
       refine th_n (hK12 _ _ ?_)
       clear hK12 K12
       refine wp_ret ?_
       refine ib_r ?_
       refine th_r ?_
       clear hK4 K4
       refine ret_r1 rfl rfl ?_  -- r8
       exact ⟨by first | exact cvB_f (by unfold cvP; dsimp only; omega) | exact cvB_d (by unfold cvP; dsimp only; omega) | exact cvB_t (by unfold cvP; dsimp only; omega), G⟩
     · -- g5F
      first | with_reducible (replace hb5 := nb_nf hb5) | with_reducible (replace hb5 := nb_tf hb5) | with_reducible (replace hb5 := nb_bf hb5) | skip
      refine S_off rfl rfl ?_
      refine S_val (Y_pickF rfl rfl) ?_
      refine S_val (Y_move rfl) ?_
      refine S_off rfl rfl ?_
      refine S_off rfl rfl ?_
      refine S_off rfl rfl ?_
      refine S_val (Y_pickF rfl rfl) ?_
      refine S_val (Y_assign rfl) ?_
      refine S_nl rfl rfl ?_
      refine th_n (hK12 _ _ ?_)
      clear hK12 K12
      refine wp_ret ?_
      refine ib_r ?_
      refine th_r ?_
      clear hK4 K4
      refine ret_r1 rfl rfl ?_  -- r9
      exact ⟨by first | exact cvB_f (by unfold cvP; dsimp only; omega) | exact cvB_d (by unfold cvP; dsimp only; omega) | exact cvB_t (by unfold cvP; dsimp only; omega), G⟩
    · -- c4F
     replace hb4 := nb_tf hb4
     refine wp_seq_k fun K13 hK13 => ?_
     refine Sb 75 rfl ?_  -- 11
     refine S_val (Y_eql rfl rfl) ?_
     refine S_val (Y_assign rfl) ?_
     refine S_nl rfl rfl ?_
     refine th_n (hK13 _ _ ?_)
     clear hK13 K13
     refine S_if rfl (fun hb5 => ?_) (fun hb5 => ?_)  -- c5
     · -- c5T
      replace hb5 := nb_tt hb5
      refine wp_seq_k fun K14 hK14 => ?_
      refine Sb 75 rfl ?_  -- 12
      refine S_val (Y_move rfl) ?_
      refine S_val (Y_move rfl) ?_
      refine S_g 52 rfl (fun hb6 => ?_) (fun hb6 => ?_)  -- g7
      · -- g7T
       first | with_reducible (replace hb6 := nb_nt hb6) | with_reducible (replace hb6 := nb_tt hb6) | with_reducible (replace hb6 := nb_bt hb6) | skip
       refine S_on rfl rfl ?_
       refine S_val (Y_field Try.underlying133 rfl fz133_2 (by decide) rfl) ?_
       refine S_on rfl rfl ?_
       refine S_val (Y_load Try.underlying3 rfl rfl (B1.at (by rfl))) ?_  -- l8
       refine S_on rfl rfl ?_
       refine S_val (Y_eql rfl rfl) ?_
       refine S_val (Y_pickT rfl rfl) ?_
       refine S_val (Y_move rfl) ?_
       refine S_g 57 rfl (fun hb7 => ?_) (fun hb7 => ?_)  -- g8
       · -- g8T
        first | with_reducible (replace hb7 := nb_nt hb7) | with_reducible (replace hb7 := nb_tt hb7) | with_reducible (replace hb7 := nb_bt hb7) | skip
        refine S_on rfl rfl ?_
        refine S_val (Y_field Try.underlying133 rfl fz133_3 (by decide) rfl) ?_
        refine S_on rfl rfl ?_
        refine S_val (Y_load Try.underlying3 rfl rfl (B1.at (by rfl))) ?_  -- l9
        refine S_on rfl rfl ?_
        refine S_val (Y_eql rfl rfl) ?_
        refine S_val (Y_pickT rfl rfl) ?_
        refine S_val (Y_assign rfl) ?_
        refine S_nl rfl rfl ?_
        refine th_n (hK14 _ _ ?_)
        clear hK14 K14
        refine wp_ret ?_
        refine ib_r ?_
        refine th_r ?_
        clear hK4 K4
        refine ret_r1 rfl rfl ?_  -- r10
        exact ⟨by first | exact cvB_f (by unfold cvP; dsimp only; omega) | exact cvB_d (by unfold cvP; dsimp only; omega) | exact cvB_t (by unfold cvP; dsimp only; omega), G⟩
       · -- g8F
        first | with_reducible (replace hb7 := nb_nf hb7) | with_reducible (replace hb7 := nb_tf hb7) | with_reducible (replace hb7 := nb_bf hb7) | skip
        refine S_off rfl rfl ?_
        refine S_off rfl rfl ?_
        refine S_off rfl rfl ?_
        refine S_val (Y_pickF rfl rfl) ?_
        refine S_val (Y_assign rfl) ?_
        refine S_nl rfl rfl ?_
        refine th_n (hK14 _ _ ?_)
        clear hK14 K14
        refine wp_ret ?_
        refine ib_r ?_
        refine th_r ?_
        clear hK4 K4
        refine ret_r1 rfl rfl ?_  -- r11
        exact ⟨by first | exact cvB_f (by unfold cvP; dsimp only; omega) | exact cvB_d (by unfold cvP; dsimp only; omega) | exact cvB_t (by unfold cvP; dsimp only; omega), G⟩
      · -- g7F
       first | with_reducible (replace hb6 := nb_nf hb6) | with_reducible (replace hb6 := nb_tf hb6) | with_reducible (replace hb6 := nb_bf hb6) | skip
       refine S_off rfl rfl ?_
       refine S_off rfl rfl ?_
       refine S_off rfl rfl ?_
       refine S_val (Y_pickF rfl rfl) ?_
       refine S_val (Y_move rfl) ?_
       refine S_off rfl rfl ?_
       refine S_off rfl rfl ?_
       refine S_off rfl rfl ?_
       refine S_val (Y_pickF rfl rfl) ?_
       refine S_val (Y_assign rfl) ?_
       refine S_nl rfl rfl ?_
       refine th_n (hK14 _ _ ?_)
       clear hK14 K14
       refine wp_ret ?_
       refine ib_r ?_
       refine th_r ?_
       clear hK4 K4
       refine ret_r1 rfl rfl ?_  -- r12
       exact ⟨by first | exact cvB_f (by unfold cvP; dsimp only; omega) | exact cvB_d (by unfold cvP; dsimp only; omega) | exact cvB_t (by unfold cvP; dsimp only; omega), G⟩
     · -- c5F
      replace hb5 := nb_tf hb5
      refine wp_seq_k fun K15 hK15 => ?_
      refine Sb 75 rfl ?_  -- 13
      refine S_val (Y_eql rfl rfl) ?_
      refine S_val (Y_assign rfl) ?_
      refine S_nl rfl rfl ?_
      refine th_n (hK15 _ _ ?_)
      clear hK15 K15
      refine S_if rfl (fun hb6 => ?_) (fun hb6 => ?_)  -- c6
      · -- c6T
       replace hb6 := nb_tt hb6
       refine wp_seq_k fun K16 hK16 => ?_
       refine Sb 75 rfl ?_  -- 14
       refine S_val (Y_move rfl) ?_
       refine S_val (Y_move rfl) ?_
       refine S_g 65 rfl (fun hb7 => ?_) (fun hb7 => ?_)  -- g9
       · -- g9T
        first | with_reducible (replace hb7 := nb_nt hb7) | with_reducible (replace hb7 := nb_tt hb7) | with_reducible (replace hb7 := nb_bt hb7) | skip
        refine S_on rfl rfl ?_
        refine S_val (Y_field Try.underlying133 rfl fz133_2 (by decide) rfl) ?_
        refine S_on rfl rfl ?_
        refine S_val (Y_load Try.underlying3 rfl rfl (B1.at (by rfl))) ?_  -- l10
        refine S_on rfl rfl ?_
        refine S_call rfl en52 (spec_l1In_c _ _ _ _) ?_  -- k6 spec.l1In
        rintro v w' ⟨rfl, rfl⟩
        refine S_val (Y_pickT rfl rfl) ?_
        refine S_val (Y_move rfl) ?_
        refine S_g 70 rfl (fun hb8 => ?_) (fun hb8 => ?_)  -- g10
        · -- g10T
         first | with_reducible (replace hb8 := nb_nt hb8) | with_reducible (replace hb8 := nb_tt hb8) | with_reducible (replace hb8 := nb_bt hb8) | skip
         refine S_on rfl rfl ?_
         refine S_val (Y_field Try.underlying133 rfl fz133_3 (by decide) rfl) ?_
         refine S_on rfl rfl ?_
         refine S_val (Y_load Try.underlying3 rfl rfl (B1.at (by rfl))) ?_  -- l11
         refine S_on rfl rfl ?_
         refine S_val (Y_eql rfl rfl) ?_
         refine S_val (Y_pickT rfl rfl) ?_
         refine S_val (Y_assign rfl) ?_
         refine S_nl rfl rfl ?_
         refine th_n (hK16 _ _ ?_)
         clear hK16 K16
         refine wp_ret ?_
         refine ib_r ?_
         refine th_r ?_
         clear hK4 K4
         refine ret_r1 rfl rfl ?_  -- r13
         exact ⟨by first | exact cvB_f (by unfold cvP; dsimp only; omega) | exact cvB_d (by unfold cvP; dsimp only; omega) | exact cvB_t (by unfold cvP; dsimp only; omega), G⟩
        · -- g10F
         first | with_reducible (replace hb8 := nb_nf hb8) | with_reducible (replace hb8 := nb_tf hb8) | with_reducible (replace hb8 := nb_bf hb8) | skip
         refine S_off rfl rfl ?_
         refine S_off rfl rfl ?_
         refine S_off rfl rfl ?_
         refine S_val (Y_pickF rfl rfl) ?_
         refine S_val (Y_assign rfl) ?_
         refine S_nl rfl rfl ?_
         refine th_n (hK16 _ _ ?_)
         clear hK16 K16
         refine wp_ret ?_
         refine ib_r ?_
         refine th_r ?_
         clear hK4 K4
         refine ret_r1 rfl rfl ?_  -- r14
         exact ⟨by first | exact cvB_f (by unfold cvP; dsimp only; omega) | exact cvB_d (by unfold cvP; dsimp only; omega) | exact cvB_t (by unfold cvP; dsimp only; omega), G⟩
       · -- g9F
        first | with_reducible (replace hb7 := nb_nf hb7) | with_reducible (replace hb7 := nb_tf hb7) | with_reducible (replace hb7 := nb_bf hb7) | skip
        refine S_off rfl rfl ?_
        refine S_off rfl rfl ?_
        refine S_off rfl rfl ?_
        refine S_val (Y_pickF rfl rfl) ?_
        refine S_val (Y_move rfl) ?_
        refine S_off rfl rfl ?_
        refine S_off rfl rfl ?_
        refine S_off rfl rfl ?_
        refine S_val (Y_pickF rfl rfl) ?_
        refine S_val (Y_assign rfl) ?_
        refine S_nl rfl rfl ?_
        refine th_n (hK16 _ _ ?_)
        clear hK16 K16
        refine wp_ret ?_
        refine ib_r ?_
        refine th_r ?_
        clear hK4 K4
        refine ret_r1 rfl rfl ?_  -- r15
        exact ⟨by first | exact cvB_f (by unfold cvP; dsimp only; omega) | exact cvB_d (by unfold cvP; dsimp only; omega) | exact cvB_t (by unfold cvP; dsimp only; omega), G⟩
      · -- c6F
       replace hb6 := nb_tf hb6
       refine wp_skip ?_
       refine ib_n ?_
       refine th_n (hK4 _ _ ?_)
       clear hK4 K4
       refine wp_seq_k fun K17 hK17 => ?_
       refine Sb 75 rfl ?_  -- 15
       refine S_val (Y_assign rfl) ?_
       refine S_nl rfl rfl ?_
       refine th_n (hK17 _ _ ?_)
       clear hK17 K17
       refine wp_ret ?_
       refine ret_r1 rfl rfl ?_  -- r16
       exact ⟨by first | exact cvB_f (by unfold cvP; dsimp only; omega) | exact cvB_d (by unfold cvP; dsimp only; omega) | exact cvB_t (by unfold cvP; dsimp only; omega), G⟩
  · -- c2F
   replace hb2 := nb_tf hb2
   refine Sb 75 rfl ?_  -- 7
   refine S_val (Y_eql rfl rfl) ?_
   refine S_val (Y_assign rfl) ?_
   refine S_nl rfl rfl ?_
   refine th_n (hK8 _ _ ?_)
   clear hK8 K8
   refine S_if rfl (fun hb3 => ?_) (fun hb3 => ?_)  -- c7
   · -- c7T
    replace hb3 := nb_tt hb3
    refine wp_seq_k fun K18 hK18 => ?_
    refine Sb 75 rfl ?_  -- 8
    refine S_val (Y_move rfl) ?_
    refine S_val (Y_move rfl) ?_
    refine S_g 30 rfl (fun hb4 => ?_) (fun hb4 => ?_)  -- g11
    · -- g11T
     first | with_reducible (replace hb4 := nb_nt hb4) | with_reducible (replace hb4 := nb_tt hb4) | with_reducible (replace hb4 := nb_bt hb4) | skip
     refine S_on rfl rfl ?_
     refine S_val (Y_move rfl) ?_
     refine S_val (Y_pickT rfl rfl) ?_
     refine S_val (Y_move rfl) ?_
     refine S_g 33 rfl (fun hb5 => ?_) (fun hb5 => ?_)  -- g12
     · -- g12T
      first | with_reducible (replace hb5 := nb_nt hb5) | with_reducible (replace hb5 := nb_tt hb5) | with_reducible (replace hb5 := nb_bt hb5) | skip
      refine S_on rfl rfl ?_
      refine S_val (Y_field Try.underlying133 rfl fz133_3 (by decide) rfl) ?_
      refine S_on rfl rfl ?_
      refine S_val (Y_load Try.underlying3 rfl rfl (B1.at (by rfl))) ?_  -- l12
      refine S_on rfl rfl ?_
      refine S_call rfl en52 (spec_l1In_c _ _ _ _) ?_  -- k7 spec.l1In
      rintro v w' ⟨rfl, rfl⟩
      refine S_val (Y_pickT rfl rfl) ?_
      refine S_val (Y_assign rfl) ?_
      refine S_nl rfl rfl ?_
      refine th_n (hK18 _ _ ?_)
      clear hK18 K18
      refine wp_ret ?_
      refine ib_r ?_
      refine th_r ?_
      clear hK4 K4
      refine ret_r1 rfl rfl ?_  -- r17
      exact ⟨by first | exact cvB_f (by unfold cvP; dsimp only; omega) | exact cvB_d (by unfold cvP; dsimp only; omega) | exact cvB_t (by unfold cvP; dsimp only; omega), G⟩
     · -- g12F
      first | with_reducible (replace hb5 := nb_nf hb5) | with_reducible (replace hb5 := nb_tf hb5) | with_reducible (replace hb5 := nb_bf hb5) | skip
      refine S_off rfl rfl ?_
      refine S_off rfl rfl ?_
      refine S_off rfl rfl ?_
      refine S_val (Y_pickF rfl rfl) ?_
      refine S_val (Y_assign rfl) ?_
      refine S_nl rfl rfl ?_
      refine th_n (hK18 _ _ ?_)
      clear hK18 K18
      refine wp_ret ?_
      refine ib_r ?_
      refine th_r ?_
      clear hK4 K4
      refine ret_r1 rfl rfl ?_  -- r18
      exact ⟨by first | exact cvB_f (by unfold cvP; dsimp only; omega) | exact cvB_d (by unfold cvP; dsimp only; omega) | exact cvB_t (by unfold cvP; dsimp only; omega), G⟩
    · -- g11F
     first | with_reducible (replace hb4 := nb_nf hb4) | with_reducible (replace hb4 := nb_tf hb4) | with_reducible (replace hb4 := nb_bf hb4) | skip
     refine S_off rfl rfl ?_
     refine S_val (Y_pickF rfl rfl) ?_
     refine S_val (Y_move rfl) ?_
     refine S_off rfl rfl ?_
     refine S_off rfl rfl ?_
     refine S_off rfl rfl ?_
     refine S_val (Y_pickF rfl rfl) ?_
     refine S_val (Y_assign rfl) ?_
     refine S_nl rfl rfl ?_
     refine th_n (hK18 _ _ ?_)
     clear hK18 K18
     refine wp_ret ?_
     refine ib_r ?_
     refine th_r ?_
     clear hK4 K4
     refine ret_r1 rfl rfl ?_  -- r19
     exact ⟨by first | exact cvB_f (by unfold cvP; dsimp only; omega) | exact cvB_d (by unfold cvP; dsimp only; omega) | exact cvB_t (by unfold cvP; dsimp only; omega), G⟩
   · -- c7F
    replace hb3 := nb_tf hb3
    refine wp_seq_k fun K19 hK19 => ?_
    refine Sb 75 rfl ?_  -- 9
    refine S_val (Y_eql rfl rfl) ?_
    refine S_val (Y_assign rfl) ?_
    refine S_nl rfl rfl ?_
    refine th_n (hK19 _ _ ?_)
    clear hK19 K19
    refine S_if rfl (fun hb4 => ?_) (fun hb4 => ?_)  -- c8
    · -- c8T
     replace hb4 := nb_tt hb4
     refine wp_seq_k fun K20 hK20 => ?_
     refine Sb 75 rfl ?_  -- 10
     refine S_val (Y_move rfl) ?_
     refine S_val (Y_move rfl) ?_
     refine S_g 41 rfl (fun hb5 => ?_) (fun hb5 => ?_)  -- g13
     · -- g13T
      first | with_reducible (replace hb5 := nb_nt hb5) | with_reducible (replace hb5 := nb_tt hb5) | with_reducible (replace hb5 := nb_bt hb5) | skip
      refine S_on rfl rfl ?_
      refine S_val (Y_move rfl) ?_
      refine S_val (Y_pickT rfl rfl) ?_
      refine S_val (Y_move rfl) ?_
      refine S_g 44 rfl (fun hb6 => ?_) (fun hb6 => ?_)  -- g14
      · -- g14T
       first | with_reducible (replace hb6 := nb_nt hb6) | with_reducible (replace hb6 := nb_tt hb6) | with_reducible (replace hb6 := nb_bt hb6) | skip
       refine S_on rfl rfl ?_
       refine S_val (Y_field Try.underlying133 rfl fz133_3 (by decide) rfl) ?_
       refine S_on rfl rfl ?_
       refine S_val (Y_load Try.underlying3 rfl rfl (B1.at (by rfl))) ?_  -- l13
       refine S_on rfl rfl ?_
       refine S_val (Y_eql rfl rfl) ?_
       refine S_val (Y_pickT rfl rfl) ?_
       refine S_val (Y_assign rfl) ?_
       refine S_nl rfl rfl ?_
       refine th_n (hK20 _ _ ?_)
       clear hK20 K20
       refine wp_ret ?_
       refine ib_r ?_
       refine th_r ?_
       clear hK4 K4
       refine ret_r1 rfl rfl ?_  -- r20
       exact ⟨by first | exact cvB_f (by unfold cvP; dsimp only; omega) | exact cvB_d (by unfold cvP; dsimp only; omega) | exact cvB_t (by unfold cvP; dsimp only; omega), G⟩
      · -- g14F
       first | with_reducible (replace hb6 := nb_nf hb6) | with_reducible (replace hb6 := nb_tf hb6) | with_reducible (replace hb6 := nb_bf hb6) | skip
       refine S_off rfl rfl ?_
       refine S_off rfl rfl ?_
       refine S_off rfl rfl ?_
       refine S_val (Y_pickF rfl rfl) ?_
       refine S_val (Y_assign rfl) ?_
       refine S_nl rfl rfl ?_
       refine th_n (hK20 _ _ ?_)
       clear hK20 K20
       refine wp_ret ?_
       refine ib_r ?_
       refine th_r ?_
       clear hK4 K4
       refine ret_r1 rfl rfl ?_  -- r21
       exact ⟨by first | exact cvB_f (by unfold cvP; dsimp only; omega) | exact cvB_d (by unfold cvP; dsimp only; omega) | exact cvB_t (by unfold cvP; dsimp only; omega), G⟩
     · -- g13F
      first | with_reducible (replace hb5 := nb_nf hb5) | with_reducible (replace hb5 := nb_tf hb5) | with_reducible (replace hb5 := nb_bf hb5) | skip
      refine S_off rfl rfl ?_
      refine S_val (Y_pickF rfl rfl) ?_
      refine S_val (Y_move rfl) ?_
      refine S_off rfl rfl ?_
      refine S_off rfl rfl ?_
      refine S_off rfl rfl ?_
      refine S_val (Y_pickF rfl rfl) ?_
      refine S_val (Y_assign rfl) ?_
      refine S_nl rfl rfl ?_
      refine th_n (hK20 _ _ ?_)
      clear hK20 K20
      refine wp_ret ?_
      refine ib_r ?_
      refine th_r ?_
      clear hK4 K4
      refine ret_r1 rfl rfl ?_  -- r22
      exact ⟨by first | exact cvB_f (by unfold cvP; dsimp only; omega) | exact cvB_d (by unfold cvP; dsimp only; omega) | exact cvB_t (by unfold cvP; dsimp only; omega), G⟩
    · -- c8F
     replace hb4 := nb_tf hb4
     refine wp_seq_k fun K21 hK21 => ?_
     refine Sb 75 rfl ?_  -- 11
     refine S_val (Y_eql rfl rfl) ?_
     refine S_val (Y_assign rfl) ?_
     refine S_nl rfl rfl ?_
     refine th_n (hK21 _ _ ?_)
     clear hK21 K21
     refine S_if rfl (fun hb5 => ?_) (fun hb5 => ?_)  -- c9
     · -- c9T
      replace hb5 := nb_tt hb5
      refine wp_seq_k fun K22 hK22 => ?_
      refine Sb 75 rfl ?_  -- 12
      refine S_val (Y_move rfl) ?_
      refine S_val (Y_move rfl) ?_
      refine S_g 52 rfl (fun hb6 => ?_) (fun hb6 => ?_)  -- g15
      · -- g15T
       first | with_reducible (replace hb6 := nb_nt hb6) | with_reducible (replace hb6 := nb_tt hb6) | with_reducible (replace hb6 := nb_bt hb6) | skip
       refine S_on rfl rfl ?_
       refine S_val (Y_field Try.underlying133 rfl fz133_2 (by decide) rfl) ?_
       refine S_on rfl rfl ?_
       refine S_val (Y_load Try.underlying3 rfl rfl (B1.at (by rfl))) ?_  -- l14
       refine S_on rfl rfl ?_
       refine S_val (Y_eql rfl rfl) ?_
       refine S_val (Y_pickT rfl rfl) ?_
       refine S_val (Y_move rfl) ?_
       refine S_g 57 rfl (fun hb7 => ?_) (fun hb7 => ?_)  -- g16
       · -- g16T
        first | with_reducible (replace hb7 := nb_nt hb7) | with_reducible (replace hb7 := nb_tt hb7) | with_reducible (replace hb7 := nb_bt hb7) | skip
        refine S_on rfl rfl ?_
        refine S_val (Y_field Try.underlying133 rfl fz133_3 (by decide) rfl) ?_
        refine S_on rfl rfl ?_
        refine S_val (Y_load Try.underlying3 rfl rfl (B1.at (by rfl))) ?_  -- l15
        refine S_on rfl rfl ?_
        refine S_val (Y_eql rfl rfl) ?_
        refine S_val (Y_pickT rfl rfl) ?_
        refine S_val (Y_assign rfl) ?_
        refine S_nl rfl rfl ?_
        refine th_n (hK22 _ _ ?_)
        clear hK22 K22
        refine wp_ret ?_
        refine ib_r ?_
        refine th_r ?_
        clear hK4 K4
        refine ret_r1 rfl rfl ?_  -- r23
        exact ⟨by first | exact cvB_f (by unfold cvP; dsimp only; omega) | exact cvB_d (by unfold cvP; dsimp only; omega) | exact cvB_t (by unfold cvP; dsimp only; omega), G⟩
       · -- g16F
        first | with_reducible (replace hb7 := nb_nf hb7) | with_reducible (replace hb7 := nb_tf hb7) | with_reducible (replace hb7 := nb_bf hb7) | skip
        refine S_off rfl rfl ?_
        refine S_off rfl rfl ?_
        refine S_off rfl rfl ?_
        refine S_val (Y_pickF rfl rfl) ?_
        refine S_val (Y_assign rfl) ?_
        refine S_nl rfl rfl ?_
        refine th_n (hK22 _ _ ?_)
        clear hK22 K22
        refine wp_ret ?_
        refine ib_r ?_
        refine th_r ?_
        clear hK4 K4
        refine ret_r1 rfl rfl ?_  -- r24
        exact ⟨by first | exact cvB_f (by unfold cvP; dsimp only; omega) | exact cvB_d (by unfold cvP; dsimp only; omega) | exact cvB_t (by unfold cvP; dsimp only; omega), G⟩
      · -- g15F
       first | with_reducible (replace hb6 := nb_nf hb6) | with_reducible (replace hb6 := nb_tf hb6) | with_reducible (replace hb6 := nb_bf hb6) | skip
       refine S_off rfl rfl ?_
       refine S_off rfl rfl ?_
       refine S_off rfl rfl ?_
       refine S_val (Y_pickF rfl rfl) ?_
       refine S_val (Y_move rfl) ?_
       refine S_off rfl rfl ?_
       refine S_off rfl rfl ?_
       refine S_off rfl rfl ?_
       refine S_val (Y_pickF rfl rfl) ?_
       refine S_val (Y_assign rfl) ?_
       refine S_nl rfl rfl ?_
       refine th_n (hK22 _ _ ?_)
       clear hK22 K22
       refine wp_ret ?_
       refine ib_r ?_
       refine th_r ?_
       clear hK4 K4
       refine ret_r1 rfl rfl ?_  -- r25
       exact ⟨by first | exact cvB_f (by unfold cvP; dsimp only; omega) | exact cvB_d (by unfold cvP; dsimp only; omega) | exact cvB_t (by unfold cvP; dsimp only; omega), G⟩
     · -- c9F
      replace hb5 := nb_tf hb5
      refine wp_seq_k fun K23 hK23 => ?_
      refine Sb 75 rfl ?_  -- 13
      refine S_val (Y_eql rfl rfl) ?_
      refine S_val (Y_assign rfl) ?_
      refine S_nl rfl rfl ?_
      refine th_n (hK23 _ _ ?_)
      clear hK23 K23
      refine S_if rfl (fun hb6 => ?_) (fun hb6 => ?_)  -- c10
      · -- c10T
       replace hb6 := nb_tt hb6
       refine wp_seq_k fun K24 hK24 => ?_
       refine Sb 75 rfl ?_  -- 14
       refine S_val (Y_move rfl) ?_
       refine S_val (Y_move rfl) ?_
       refine S_g 65 rfl (fun hb7 => ?_) (fun hb7 => ?_)  -- g17
       · -- g17T
        first | with_reducible (replace hb7 := nb_nt hb7) | with_reducible (replace hb7 := nb_tt hb7) | with_reducible (replace hb7 := nb_bt hb7) | skip
        refine S_on rfl rfl ?_
        refine S_val (Y_field Try.underlying133 rfl fz133_2 (by decide) rfl) ?_
        refine S_on rfl rfl ?_
        refine S_val (Y_load Try.underlying3 rfl rfl (B1.at (by rfl))) ?_  -- l16
        refine S_on rfl rfl ?_
        refine S_call rfl en52 (spec_l1In_c _ _ _ _) ?_  -- k8 spec.l1In
        rintro v w' ⟨rfl, rfl⟩
        refine S_val (Y_pickT rfl rfl) ?_
        refine S_val (Y_move rfl) ?_
        refine S_g 70 rfl (fun hb8 => ?_) (fun hb8 => ?_)  -- g18
        · -- g18T
         first | with_reducible (replace hb8 := nb_nt hb8) | with_reducible (replace hb8 := nb_tt hb8) | with_reducible (replace hb8 := nb_bt hb8) | skip
         refine S_on rfl rfl ?_
         refine S_val (Y_field Try.underlying133 rfl fz133_3 (by decide) rfl) ?_
         refine S_on rfl rfl ?_
         refine S_val (Y_load Try.underlying3 rfl rfl (B1.at (by rfl))) ?_  -- l17
         refine S_on rfl rfl ?_
         refine S_val (Y_eql rfl rfl) ?_
         refine S_val (Y_pickT rfl rfl) ?_
         refine S_val (Y_assign rfl) ?_
         refine S_nl rfl rfl ?_
         refine th_n (hK24 _ _ ?_)
         clear hK24 K24
         refine wp_ret ?_
         refine ib_r ?_
         refine th_r ?_
         clear hK4 K4
         refine ret_r1 rfl rfl ?_  -- r26
         exact ⟨by first | exact cvB_f (by unfold cvP; dsimp only; omega) | exact cvB_d (by unfold cvP; dsimp only; omega) | exact cvB_t (by unfold cvP; dsimp only; omega), G⟩
        · -- g18F
         first | with_reducible (replace hb8 := nb_nf hb8) | with_reducible (replace hb8 := nb_tf hb8) | with_reducible (replace hb8 := nb_bf hb8) | skip
         refine S_off rfl rfl ?_
         refine S_off rfl rfl ?_
         refine S_off rfl rfl ?_
         refine S_val (Y_pickF rfl rfl) ?_
         refine S_val (Y_assign rfl) ?_
         refine S_nl rfl rfl ?_
         refine th_n (hK24 _ _ ?_)
         clear hK24 K24
         refine wp_ret ?_
         refine ib_r ?_
         refine th_r ?_
         clear hK4 K4
         refine ret_r1 rfl rfl ?_  -- r27
         exact ⟨by first | exact cvB_f (by unfold cvP; dsimp only; omega) | exact cvB_d (by unfold cvP; dsimp only; omega) | exact cvB_t (by unfold cvP; dsimp only; omega), G⟩
       · -- g17F
        first | with_reducible (replace hb7 := nb_nf hb7) | with_reducible (replace hb7 := nb_tf hb7) | with_reducible (replace hb7 := nb_bf hb7) | skip
        refine S_off rfl rfl ?_
        refine S_off rfl rfl ?_
        refine S_off rfl rfl ?_
        refine S_val (Y_pickF rfl rfl) ?_
        refine S_val (Y_move rfl) ?_
        refine S_off rfl rfl ?_
        refine S_off rfl rfl ?_
        refine S_off rfl rfl ?_
        refine S_val (Y_pickF rfl rfl) ?_
        refine S_val (Y_assign rfl) ?_
        refine S_nl rfl rfl ?_
        refine th_n (hK24 _ _ ?_)
        clear hK24 K24
        refine wp_ret ?_
        refine ib_r ?_
        refine th_r ?_
        clear hK4 K4
        refine ret_r1 rfl rfl ?_  -- r28
        exact ⟨by first | exact cvB_f (by unfold cvP; dsimp only; omega) | exact cvB_d (by unfold cvP; dsimp only; omega) | exact cvB_t (by unfold cvP; dsimp only; omega), G⟩
      · -- c10F
       replace hb6 := nb_tf hb6
       refine wp_skip ?_
       refine ib_n ?_
       refine th_n (hK4 _ _ ?_)
       clear hK4 K4
       refine wp_seq_k fun K25 hK25 => ?_
       refine Sb 75 rfl ?_  -- 15
       refine S_val (Y_assign rfl) ?_
       refine S_nl rfl rfl ?_
       refine th_n (hK25 _ _ ?_)
       clear hK25 K25
       refine wp_ret ?_
       refine ret_r1 rfl rfl ?_  -- r29
       exact ⟨by first | exact cvB_f (by unfold cvP; dsimp only; omega) | exact cvB_d (by unfold cvP; dsimp only; omega) | exact cvB_t (by unfold cvP; dsimp only; omega), G⟩
theorem csB_bad {l : List LCmd} {k : Nat} (hk : k < l.length) (h : cvB l[k] = false) : Value.bool false = .bool (csB l) := by
  have := all_false hk h
  simp [csB, this]
theorem csB_ok {l : List LCmd} (h : l.all cvB = true) : Value.bool (decide (l.length ≤ 40)) = .bool (csB l) := by
  unfold csB
  rw [h]
  simp
set_option maxHeartbeats 400000 in
set_option maxRecDepth 20000 in
theorem spec_CommandsValid_c (Pr : Nat → Prop) (A : Option Addr) (xs : List LCmd) (c : Nat) (w : World) (hA : RO Pr w A xs) (hx : xs.length ≤ 1048576) :
    Calls Try.prog 118 #[.slice A xs.length c] w (Ret fun v w' => v = .bool (csB xs) ∧ Grow w w') := by
 refine enter Try.func118 rfl Try.ntmps118 (L := [_,_,_,_,_,_,_,_,_,_,_,_,_,_,_,_,_,_,_]) rfl ?_
 have G := Mod.refl No w
 have hA0 := hA
 refine wp_seq_k fun K1 hK1 => ?_
 refine Sb 19 rfl ?_  -- 0
 refine S_val (Y_assign rfl) ?_
 refine S_nl rfl rfl ?_
 refine th_n (hK1 _ _ ?_)
 clear hK1 K1
 refine wp_seq_k fun K2 hK2 => ?_
 refine wp_seq_k fun K3 hK3 => ?_
 refine Sb 19 rfl ?_  -- 1
 refine S_val (Y_assign rfl) ?_
 refine S_nl rfl rfl ?_
 refine th_n (hK3 _ _ ?_)
 clear hK3 K3
 refine wp_block ?_
 go_loopw [3] (fun u3 wr => (∃ k : Nat, u3 = .int .i64 k ∧ k ≤ xs.length ∧ (xs.take k).all cvB = true) ∧ Mod No w wr) (fun u3 wr => xs.length - (intOf u3).toNat)  -- L1
 case atStart =>
  refine ⟨?_, Mod.refl _ _⟩
  exact ⟨0, rfl, by omega, by simp⟩
 case round =>
  obtain ⟨w1, rfl⟩ : ∃ x : World, x = wr := ⟨_, rfl⟩
  obtain ⟨hrel, g1⟩ := hrel
  replace hA := hA.grow g1
  replace G := G.grow g1
  have zg1 := g1.size
  obtain ⟨k, rfl, hk, hs⟩ := hrel
  have GL1 := g1
  refine wp_seq_k fun K4 hK4 => ?_
  refine wp_seq_k fun K5 hK5 => ?_
  refine Sb 19 rfl ?_  -- 2
  refine S_val (Y_move rfl) ?_
  refine S_val (Y_move rfl) ?_
  refine S_val (Y_len Try.underlying120 rfl) ?_
  refine S_val (Y_lss rfl rfl) ?_
  refine S_nl rfl rfl ?_
  refine th_n (hK5 _ _ ?_)
  clear hK5 K5
  refine S_if rfl (fun hb1 => ?_) (fun hb1 => ?_)  -- c1
  · -- c1T
   replace hb1 := nb_tt hb1
   have hk1 : k < xs.length := by omega
   obtain ⟨g2, o2, rfl, hp2, cc20⟩ := hA0.cell hk1
   have cc2 := cc20.grow G
   refine wp_skip ?_
   refine th_n (hK4 _ _ ?_)
   clear hK4 K4
   refine wp_seq_k fun K6 hK6 => ?_
   refine wp_block ?_
   refine wp_seq_k fun K7 hK7 => ?_
   refine Sb 19 rfl ?_  -- 4
   refine S_val (Y_move rfl) ?_
   refine S_val (Y_move rfl) ?_
   refine S_val (Y_index Try.underlying120 sz133 rfl rfl (by first | assumption | omega)) ?_
   refine S_val (Y_loadS Try.underlying133 rfl sz133 rfl (by first | assumption | skip)) ?_  -- l1
   refine S_call rfl en125 (spec_CommandValid_c _ _ _ _ _) ?_  -- k1 spec.CommandValid
   rintro v2 w2 ⟨rfl, g2⟩
   replace hA := hA.grow g2
   replace cc2 := cc2.grow g2
   replace G := G.grow g2
   replace GL1 := GL1.grow g2
   have zg2 := g2.size
   refine S_val (Y_not rfl) ?_
   refine S_nl rfl rfl ?_
   refine th_n (hK7 _ _ ?_)
   clear hK7 K7
   refine S_if rfl (fun hb2 => ?_) (fun hb2 => ?_)  -- c2
   · -- c2T
    first | with_reducible (replace hb2 := nb_nt hb2) | with_reducible (replace hb2 := nb_tt hb2) | with_reducible (replace hb2 := nb_bt hb2) | skip
    refine wp_seq_k fun K8 hK8 => ?_
    refine Sb 19 rfl ?_  -- 5
    refine S_val (Y_assign rfl) ?_
    refine S_nl rfl rfl ?_
    refine th_n (hK8 _ _ ?_)
    clear hK8 K8
    refine wp_ret ?_
    refine ib_r ?_
    refine th_r ?_
    try clear GL1
    refine th_r ?_
    refine ib_r ?_
    refine th_r ?_
    clear hK6 K6 hK2 K2
    refine ret_r1 rfl rfl ?_  -- r1
    exact ⟨csB_bad hk1 hb2, G⟩
   · -- c2F
    first | with_reducible (replace hb2 := nb_nf hb2) | with_reducible (replace hb2 := nb_tf hb2) | with_reducible (replace hb2 := nb_bf hb2) | skip
    refine wp_skip ?_
    refine ib_n ?_
    refine th_n (hK6 _ _ ?_)
    clear hK6 K6
    refine Sb 19 rfl ?_  -- 3
    refine S_val (Y_move rfl) ?_
    refine S_val (Y_inc rfl rfl (by omega)) ?_
    refine S_val (Y_assign rfl) ?_
    refine S_nl rfl rfl ?_
    refine th_n ?_
    go_roundw  -- e1 of L1
    case rel =>
     refine ⟨?_, GL1⟩
     exact ⟨k + 1, rfl, by omega, all_take_succ (by omega) hs hb2⟩
    case measure =>
     exact dec_nat (by omega)
  · -- c1F
   replace hb1 := nb_tf hb1
   refine wp_exit ?_
   refine th_x ?_
   try clear GL1
   refine th_x ?_
   refine ib_e ?_
   refine th_n (hK2 _ _ ?_)
   clear hK4 K4 hK2 K2
   refine wp_seq_k fun K9 hK9 => ?_
   refine Sb 19 rfl ?_  -- 6
   refine S_val (Y_move rfl) ?_
   refine S_val (Y_len Try.underlying120 rfl) ?_
   refine S_val (Y_leq rfl rfl) ?_
   refine S_val (Y_assign rfl) ?_
   refine S_nl rfl rfl ?_
   refine th_n (hK9 _ _ ?_)
   clear hK9 K9
   refine wp_ret ?_
   refine ret_r1 rfl rfl ?_  -- r2
   rw [← csB_ok (all_of_take (by omega) hs)]
   exact ⟨bI (by omega), G⟩
end
/-! WalkW -/
section
open Go Go.RowKit
attribute [local irreducible] wpList wpAnyH Code.wp dOp
set_option maxHeartbeats 400000 in
set_option maxRecDepth 20000 in
theorem spec_l8Place_c (Pr : Nat → Prop) (A B : Option Addr) (h : LH) (c d n : Nat) (r pc : Int) (w : World) (hA : RC Pr w A h.cells) (hB : R1 Pr w B (ints h.roots)) (hz : hsize h ≤ 1048576) (va : Valid h) (hn : n < h.roots.length) (hr : h.roots[n] = r) :
    Calls Try.prog 130 #[.agg #[.slice A h.cells.length c, .slice B h.roots.length d], .int .i64 r, .int .i64 pc] w (Ret fun v w' => v = .bool (placeB h (n : Int) pc) ∧ Grow w w') := by
 have hz1 := hsize_cells h
 have hz2 := hsize_roots h
 refine enter Try.func130 rfl Try.ntmps130 (L := [_,_,_,_,_,_,_,_,_,_,_,_,_,_,_,_,_,_,_,_]) rfl ?_
 have G := Mod.refl No w
 have hA0 := hA
 have hB0 := hB
 refine wp_seq_k fun K1 hK1 => ?_
 refine Sb 20 rfl ?_  -- 0
 refine S_box (cs := [_, _]) rfl rfl ?_
 intro b1 w1 fb1 g1 B1
 have lb1 := B1.lt
 replace hA := hA.grow g1
 replace hB := hB.grow g1
 replace G := G.grow g1
 have zg1 := g1.size
 refine S_val (Y_assign rfl) ?_
 refine S_nl rfl rfl ?_
 refine th_n (hK1 _ _ ?_)
 clear hK1 K1
 refine wp_seq_k fun K2 hK2 => ?_
 refine Sb 20 rfl ?_  -- 1
 refine S_val (Y_move rfl) ?_
 refine S_val (Y_geq rfl rfl) ?_
 refine S_val (Y_move rfl) ?_
 refine S_g 9 rfl (fun hb1 => ?_) (fun hb1 => ?_)  -- g1
 · -- g1T
  replace hb1 := nb_tt hb1
  obtain ⟨m, hm, hmN⟩ := valid_root va hn (by omega)
  obtain ⟨g2, o2, E2, d2, rfl, hp2, cc20, _⟩ := hA0.cell hmN
  have cc2 := cc20.grow G
  have hpl := placeB_pos (c := pc) hn hm hmN
  rw [hr] at hm
  subst hm
  refine S_on rfl rfl ?_
  refine S_val (Y_move rfl) ?_
  refine S_on rfl rfl ?_
  refine S_val (Y_field Try.underlying32 rfl fz32_0 (by decide) rfl) ?_
  refine S_on rfl rfl ?_
  refine S_val (Y_load Try.underlying30 rfl rfl (B1.at (by rfl))) ?_  -- l1
  refine S_on rfl rfl ?_
  refine S_val (Y_move rfl) ?_
  refine S_on rfl rfl ?_
  refine S_val (Y_index Try.underlying30 sz63 rfl rfl (by first | assumption | omega)) ?_
  refine S_on rfl rfl ?_
  refine S_val (Y_field Try.underlying63 rfl fz63_2 (by decide) rfl) ?_
  refine S_on rfl rfl ?_
  refine S_val (Y_load Try.underlying23 rfl rfl (by first | assumption | exact cc2.at (by rfl) | exact B1.at (by rfl))) ?_  -- l2
  refine S_on rfl rfl ?_
  refine S_val (Y_len Try.underlying23 rfl) ?_
  refine S_on rfl rfl ?_
  refine S_val (Y_lss rfl rfl) ?_
  refine S_val (Y_pickT rfl rfl) ?_
  refine S_val (Y_assign rfl) ?_
  refine S_nl rfl rfl ?_
  refine th_n (hK2 _ _ ?_)
  clear hK2 K2
  refine wp_ret ?_
  refine ret_r1 rfl rfl ?_  -- r1
  exact ⟨by rw [hpl], G⟩
 · -- g1F
  replace hb1 := nb_tf hb1
  refine S_off rfl rfl ?_
  refine S_off rfl rfl ?_
  refine S_off rfl rfl ?_
  refine S_off rfl rfl ?_
  refine S_off rfl rfl ?_
  refine S_off rfl rfl ?_
  refine S_off rfl rfl ?_
  refine S_off rfl rfl ?_
  refine S_off rfl rfl ?_
  refine S_val (Y_pickF rfl rfl) ?_
  refine S_val (Y_assign rfl) ?_
  refine S_nl rfl rfl ?_
  refine th_n (hK2 _ _ ?_)
  clear hK2 K2
  refine wp_ret ?_
  refine ret_r1 rfl rfl ?_  -- r2
  exact ⟨by rw [placeB_neg hn (by omega)], G⟩
set_option maxHeartbeats 400000 in
set_option maxRecDepth 20000 in
theorem spec_CommandPossible_c (Pr : Nat → Prop) (A B : Option Addr) (h : LH) (c d : Nat) (oop oa ob oc : Int) (w : World) (hA : RC Pr w A h.cells) (hB : R1 Pr w B (ints h.roots)) (hz : hsize h ≤ 1048576) :
    Calls Try.prog 126 #[.agg #[.slice A h.cells.length c, .slice B h.roots.length d], .agg #[.int .i64 oop, .int .i64 oa, .int .i64 ob, .int .i64 oc]] w (Ret fun v w' => v = .bool (possB h ⟨oop, oa, ob, oc⟩) ∧ Grow w w') := by
 have hz1 := hsize_cells h
 have hz2 := hsize_roots h
 refine enter Try.func126 rfl Try.ntmps126 (L := [_,_,_,_,_,_,_,_,_,_,_,_,_,_,_,_,_,_,_,_,_,_,_,_,_,_,_,_,_,_,_,_,_,_,_,_,_,_,_,_,_,_,_,_,_,_,_,_]) rfl ?_
 have G := Mod.refl No w
 have hA0 := hA
 have hB0 := hB
 refine wp_seq_k fun K1 hK1 => ?_
 refine Sb 48 rfl ?_  -- 0
 refine S_box (cs := [_, _]) rfl rfl ?_
 intro b1 w1 fb1 g1 B1
 have lb1 := B1.lt
 replace hA := hA.grow g1
 replace hB := hB.grow g1
 replace G := G.grow g1
 have zg1 := g1.size
 refine S_box (cs := [_, _, _, _]) rfl rfl ?_
 intro b2 w2 fb2 g2 B2
 have lb2 := B2.lt
 replace hA := hA.grow g2
 replace hB := hB.grow g2
 replace G := G.grow g2
 replace B1 := B1.grow g2
 have zg2 := g2.size
 refine S_val (Y_assign rfl) ?_
 refine S_nl rfl rfl ?_
 refine th_n (hK1 _ _ ?_)
 clear hK1 K1
 refine wp_seq_k fun K2 hK2 => ?_
 refine wp_seq_k fun K3 hK3 => ?_
 refine Sb 48 rfl ?_  -- 1
 refine S_val (Y_loadS Try.underlying32 rfl sz32 rfl (B1.row (by rfl))) ?_  -- l1
 refine S_call rfl en49 (spec_HeapValid_c _ _ _ _ _ _ _ (by assumption) (by assumption) (by omega)) ?_  -- k1 spec.HeapValid
 rintro v3 w3 ⟨rfl, g3⟩
 replace hA := hA.grow g3
 replace hB := hB.grow g3
 replace G := G.grow g3
 replace B1 := B1.grow g3
 replace B2 := B2.grow g3
 have zg3 := g3.size
 refine S_val (Y_not rfl) ?_
 refine S_val (Y_move rfl) ?_
 refine S_g 8 rfl (fun hb1 => ?_) (fun hb1 => ?_)  -- g1
 · -- g1T
  first | with_reducible (replace hb1 := nb_nt hb1) | with_reducible (replace hb1 := nb_tt hb1) | with_reducible (replace hb1 := nb_bt hb1) | skip
  refine S_off rfl rfl ?_
  refine S_off rfl rfl ?_
  refine S_off rfl rfl ?_
  refine S_val (Y_pickT rfl rfl) ?_
  refine S_nl rfl rfl ?_
  refine th_n (hK3 _ _ ?_)
  clear hK3 K3
  refine S_ifT rfl ?_
  refine wp_seq_k fun K4 hK4 => ?_
  refine Sb 48 rfl ?_  -- 2
  refine S_val (Y_assign rfl) ?_
  refine S_nl rfl rfl ?_
  refine th_n (hK4 _ _ ?_)
  clear hK4 K4
  refine wp_ret ?_
  refine th_r ?_
  clear hK2 K2
  refine ret_r1 rfl rfl ?_  -- r1
  exact ⟨by rw [possB_f1 hb1], G⟩
 · -- g1F
  first | with_reducible (replace hb1 := nb_nf hb1) | with_reducible (replace hb1 := nb_tf hb1) | with_reducible (replace hb1 := nb_bf hb1) | skip
  have va := valid_iff.1 hb1
  have hr4 := va.roots4
  refine S_on rfl rfl ?_
  refine S_val (Y_loadS Try.underlying133 rfl sz133 rfl (B2.row (by rfl))) ?_  -- l2
  refine S_on rfl rfl ?_
  refine S_call rfl en125 (spec_CommandValid_c _ _ _ _ _) ?_  -- k2 spec.CommandValid
  rintro v4 w4 ⟨rfl, g4⟩
  replace hA := hA.grow g4
  replace hB := hB.grow g4
  replace G := G.grow g4
  replace B1 := B1.grow g4
  replace B2 := B2.grow g4
  have zg4 := g4.size
  refine S_on rfl rfl ?_
  refine S_val (Y_not rfl) ?_
  refine S_val (Y_pickF rfl rfl) ?_
  refine S_nl rfl rfl ?_
  refine th_n (hK3 _ _ ?_)
  clear hK3 K3
  refine S_if rfl (fun hb2 => ?_) (fun hb2 => ?_)  -- c1
  · -- c1T
   first | with_reducible (replace hb2 := nb_nt hb2) | with_reducible (replace hb2 := nb_tt hb2) | with_reducible (replace hb2 := nb_bt hb2) | skip
   refine wp_seq_k fun K5 hK5 => ?_
   refine Sb 48 rfl ?_  -- 2
   refine S_val (Y_assign rfl) ?_
   refine S_nl rfl rfl ?_
   refine th_n (hK5 _ _ ?_)
   clear hK5 K5
   refine wp_ret ?_
   refine th_r ?_
   clear hK2 K2
   refine ret_r1 rfl rfl ?_  -- r2
   exact ⟨by rw [possB_f2 hb2], G⟩
  · -- c1F
   first | with_reducible (replace hb2 := nb_nf hb2) | with_reducible (replace hb2 := nb_tf hb2) | with_reducible (replace hb2 := nb_bf hb2) | skip
   have hcp := cvB_d0 hb2
   have hcq := hcp
   unfold cvP at hcq
   dsimp only at hcq
   refine wp_skip ?_
   refine th_n (hK2 _ _ ?_)
   clear hK2 K2
   refine wp_seq_k fun K6 hK6 => ?_
   refine wp_seq_k fun K7 hK7 => ?_
   refine Sb 48 rfl ?_  -- 3
   refine S_val (Y_field Try.underlying133 rfl fz133_0 (by decide) rfl) ?_
   refine S_val (Y_load Try.underlying3 rfl rfl (B2.at (by rfl))) ?_  -- l3
   refine S_nl rfl rfl ?_
   refine th_n (hK7 _ _ ?_)
   clear hK7 K7
   refine wp_block ?_
   refine wp_seq_k fun K8 hK8 => ?_
   refine Sb 48 rfl ?_  -- 4
   refine S_val (Y_eql rfl rfl) ?_
   refine S_val (Y_assign rfl) ?_
   refine S_nl rfl rfl ?_
   refine th_n (hK8 _ _ ?_)
   clear hK8 K8
   refine S_if rfl (fun hb3 => ?_) (fun hb3 => ?_)  -- c2
   · -- c2T
    replace hb3 := nb_tt hb3
    obtain ⟨n, hn⟩ := Int.eq_ofNat_of_zero_le (show 0 ≤ ob by omega)
    subst hn
    have hn4 : n < h.roots.length := by omega
    refine wp_seq_k fun K9 hK9 => ?_
    refine D_start 11 48 (fun w => Mod (No) w) follows rfl rfl ?_  -- d1 r5
    intro w5 g5
    replace hA := hA.grow g5
    replace hB := hB.grow g5
    replace G := G.grow g5
    replace B1 := B1.grow g5
    replace B2 := B2.grow g5
    have zg5 := g5.size
    have GS5 := Mod.refl (No) w5
    obtain ⟨g1, o1, e1, hp1, hc1⟩ := hB.int hn4
    cases e1
    have B1d5 := B1
    have B2d5 := B2
    refine Dq (i := 0) rfl GS5 (fun _ hs => Y_loadS Try.underlying32 rfl sz32 rfl (by first | exact hs.cells0 (B1.row (by rfl)))) ?_
    refine Dq (i := 1) rfl GS5 (fun _ _ => Y_field Try.underlying32 rfl fz32_1 (by decide) rfl) ?_
    refine Dq (i := 2) rfl GS5 (fun _ hs => Y_load Try.underlying23 rfl rfl (hs.cell0 (B1.at (by rfl)))) ?_
    refine Dq (i := 3) rfl GS5 (fun _ _ => Y_field Try.underlying133 rfl fz133_2 (by decide) rfl) ?_
    refine Dq (i := 4) rfl GS5 (fun _ hs => Y_load Try.underlying3 rfl rfl (hs.cell0 (B2.at (by rfl)))) ?_
    refine Dq (i := 5) rfl GS5 (fun _ _ => Y_index Try.underlying23 sz3 rfl rfl (by first | assumption | omega)) ?_
    refine Dq (i := 6) rfl GS5 (fun _ hs => Y_load Try.underlying3 rfl rfl (by first | exact hs.cell0 (by assumption) | exact hs.cell0 (B1.at (by rfl)) | exact hs.cell0 (B2.at (by rfl)))) ?_
    refine Dq (i := 7) rfl GS5 (fun _ _ => Y_field Try.underlying133 rfl fz133_3 (by decide) rfl) ?_
    refine Dq (i := 8) rfl GS5 (fun _ hs => Y_load Try.underlying3 rfl rfl (hs.cell0 (B2.at (by rfl)))) ?_
    refine D_1 (i := 9) (by kernel_rfl) ?_
    refine E_call rfl rfl en130 (spec_l8Place_c _ _ _ h _ _ n _ _ _ hA hB (by omega) va hn4 rfl) ?_  -- k3 spec.l8Place
    rintro v6 w6 ⟨rfl, g6⟩
    replace hA := hA.grow g6
    replace hB := hB.grow g6
    replace G := G.grow g6
    replace GS5 := GS5.grow g6
    replace B1 := B1.grow g6
    replace B2 := B2.grow g6
    have zg6 := g6.size
    refine ⟨GS5, ?_⟩
    refine Dq (i := 10) rfl GS5 (fun _ _ => Y_assign rfl) ?_
    refine D_en (by kernel_rfl) rfl rfl ?_
    refine th_n (hK9 _ _ ?_)
    clear hK9 K9
    refine wp_ret ?_
    refine ib_r ?_
    refine th_r ?_
    clear hK6 K6
    refine ret_r1 rfl rfl ?_  -- r3
    exact ⟨by rw [possB_t hb1 hb2]; simp [effectB, hb3], G⟩
   · -- c2F
    replace hb3 := nb_tf hb3
    refine wp_seq_k fun K10 hK10 => ?_
    refine Sb 48 rfl ?_  -- 6
    refine S_val (Y_eql rfl rfl) ?_
    refine S_val (Y_assign rfl) ?_
    refine S_nl rfl rfl ?_
    refine th_n (hK10 _ _ ?_)
    clear hK10 K10
    refine S_if rfl (fun hb4 => ?_) (fun hb4 => ?_)  -- c3
    · -- c3T
     replace hb4 := nb_tt hb4
     obtain ⟨n, hn⟩ := Int.eq_ofNat_of_zero_le (show 0 ≤ oa by omega)
     subst hn
     have hn4 : n < h.roots.length := by omega
     refine wp_seq_k fun K11 hK11 => ?_
     refine D_start 11 48 (fun w => Mod (No) w) follows rfl rfl ?_  -- d2 r7
     intro w7 g7
     replace hA := hA.grow g7
     replace hB := hB.grow g7
     replace G := G.grow g7
     replace B1 := B1.grow g7
     replace B2 := B2.grow g7
     have zg7 := g7.size
     have GS7 := Mod.refl (No) w7
     obtain ⟨g1, o1, e1, hp1, hc1⟩ := hB.int hn4
     cases e1
     have B1d7 := B1
     have B2d7 := B2
     refine Dq (i := 0) rfl GS7 (fun _ hs => Y_loadS Try.underlying32 rfl sz32 rfl (by first | exact hs.cells0 (B1.row (by rfl)))) ?_
     refine Dq (i := 1) rfl GS7 (fun _ _ => Y_field Try.underlying32 rfl fz32_1 (by decide) rfl) ?_
     refine Dq (i := 2) rfl GS7 (fun _ hs => Y_load Try.underlying23 rfl rfl (hs.cell0 (B1.at (by rfl)))) ?_
     refine Dq (i := 3) rfl GS7 (fun _ _ => Y_field Try.underlying133 rfl fz133_1 (by decide) rfl) ?_
     refine Dq (i := 4) rfl GS7 (fun _ hs => Y_load Try.underlying3 rfl rfl (hs.cell0 (B2.at (by rfl)))) ?_
     refine Dq (i := 5) rfl GS7 (fun _ _ => Y_index Try.underlying23 sz3 rfl rfl (by first | assumption | omega)) ?_
     refine Dq (i := 6) rfl GS7 (fun _ hs => Y_load Try.underlying3 rfl rfl (by first | exact hs.cell0 (by assumption) | exact hs.cell0 (B1.at (by rfl)) | exact hs.cell0 (B2.at (by rfl)))) ?_
     refine Dq (i := 7) rfl GS7 (fun _ _ => Y_field Try.underlying133 rfl fz133_3 (by decide) rfl) ?_
     refine Dq (i := 8) rfl GS7 (fun _ hs => Y_load Try.underlying3 rfl rfl (hs.cell0 (B2.at (by rfl)))) ?_
     refine D_1 (i := 9) (by kernel_rfl) ?_
     refine E_call rfl rfl en130 (spec_l8Place_c _ _ _ h _ _ n _ _ _ hA hB (by omega) va hn4 rfl) ?_  -- k4 spec.l8Place
     rintro v8 w8 ⟨rfl, g8⟩
     replace hA := hA.grow g8
     replace hB := hB.grow g8
     replace G := G.grow g8
     replace GS7 := GS7.grow g8
     replace B1 := B1.grow g8
     replace B2 := B2.grow g8
     have zg8 := g8.size
     refine ⟨GS7, ?_⟩
     refine Dq (i := 10) rfl GS7 (fun _ _ => Y_assign rfl) ?_
     refine D_en (by kernel_rfl) rfl rfl ?_
     refine th_n (hK11 _ _ ?_)
     clear hK11 K11
     refine wp_ret ?_
     refine ib_r ?_
     refine th_r ?_
     clear hK6 K6
     refine ret_r1 rfl rfl ?_  -- r4
     exact ⟨by rw [possB_t hb1 hb2]; simp [effectB, hb3, hb4], G⟩
    · -- c3F
     replace hb4 := nb_tf hb4
     refine wp_seq_k fun K12 hK12 => ?_
     refine Sb 48 rfl ?_  -- 8
     refine S_val (Y_eql rfl rfl) ?_
     refine S_val (Y_assign rfl) ?_
     refine S_nl rfl rfl ?_
     refine th_n (hK12 _ _ ?_)
     clear hK12 K12
     refine S_if rfl (fun hb5 => ?_) (fun hb5 => ?_)  -- c4
     · -- c4T
      replace hb5 := nb_tt hb5
      obtain ⟨n, hn⟩ := Int.eq_ofNat_of_zero_le (show 0 ≤ oa by omega)
      subst hn
      have hn4 : n < h.roots.length := by omega
      obtain ⟨g1, o1, e1, hp1, hc1⟩ := hB.int hn4
      cases e1
      refine wp_seq_k fun K13 hK13 => ?_
      refine Sb 48 rfl ?_  -- 9
      refine S_val (Y_field Try.underlying32 rfl fz32_1 (by decide) rfl) ?_
      refine S_val (Y_load Try.underlying23 rfl rfl (B1.at (by rfl))) ?_  -- l14
      refine S_val (Y_field Try.underlying133 rfl fz133_1 (by decide) rfl) ?_
      refine S_val (Y_load Try.underlying3 rfl rfl (B2.at (by rfl))) ?_  -- l15
      refine S_val (Y_index Try.underlying23 sz3 rfl rfl (by first | assumption | omega)) ?_
      refine S_val (Y_load Try.underlying3 rfl rfl (by first | assumption | exact B1.at (by rfl) | exact B2.at (by rfl))) ?_  -- l16
      refine S_val (Y_geq rfl rfl) ?_
      refine S_val (Y_assign rfl) ?_
      refine S_nl rfl rfl ?_
      refine th_n (hK13 _ _ ?_)
      clear hK13 K13
      refine wp_ret ?_
      refine ib_r ?_
      refine th_r ?_
      clear hK6 K6
      refine ret_r1 rfl rfl ?_  -- r5
      exact ⟨by rw [possB_t hb1 hb2]; simp [effectB, hb3, hb4, hb5, rootB_at hn4], G⟩
     · -- c4F
      replace hb5 := nb_tf hb5
      refine wp_skip ?_
      refine ib_n ?_
      refine th_n (hK6 _ _ ?_)
      clear hK6 K6
      refine wp_seq_k fun K14 hK14 => ?_
      refine Sb 48 rfl ?_  -- 10
      refine S_val (Y_assign rfl) ?_
      refine S_nl rfl rfl ?_
      refine th_n (hK14 _ _ ?_)
      clear hK14 K14
      refine wp_ret ?_
      refine ret_r1 rfl rfl ?_  -- r6
      exact ⟨by rw [possB_t hb1 hb2]; simp [effectB, hb3, hb4, hb5], G⟩
end
/-! WalkO -/
section
open Go Go.RowKit
attribute [local irreducible] wpList wpAnyH Code.wp dOp
def emptyH : LH := ⟨[], List.replicate 4 (-1)⟩
theorem OH.bare {Pr : Nat → Prop} {w : World} {eC eI : TypeId} {A B : Option Addr} {xs : List Int} (r : OI Pr w eI B (ints xs)) : OH Pr w eC eI A B ⟨[], xs⟩ [] := ⟨OC.nil _ _ _ _ _, r, fun i c q h => by simp at h⟩
theorem rep_snoc (k : Nat) : List.replicate k (-1 : Int) ++ [-1] = List.replicate (k + 1) (-1) := by simp [List.replicate_succ']
end
/-! WalkRn -/
section
open Go Go.RowKit
attribute [local irreducible] wpList wpAnyH Code.wp dOp
set_option maxHeartbeats 400000 in
set_option maxRecDepth 20000 in
theorem spec_l7Copy2_c (Pr : Nat → Prop) (A B : Option Addr) (h : LH) (c d : Nat) (w : World) (hA : RC Pr w A h.cells) (hB : R1 Pr w B (ints h.roots)) (hz : hsize h ≤ 1048576) :
    Calls Try.prog 87 #[.agg #[.slice A h.cells.length c, .slice B h.roots.length d]] w (Ret fun v w' => ∃ A1 B1 n1 c1 n2 c2 rs, v = .agg #[.slice A1 n1 c1, .slice B1 n2 c2] ∧ n1 = (h).cells.length ∧ n2 = (h).roots.length ∧ XH (fun i => w.heap.size ≤ i) w' 63 3 A1 B1 (h) rs c1 c2 ∧ Grow w w') := by
 have hz1 := hsize_cells h
 have hz2 := hsize_roots h
 have hne : (63 : TypeId) ≠ 3 := by decide
 have hAl := hA.below
 have hBl := hB.below
 refine enter Try.func87 rfl Try.ntmps87 (L := [_,_,_,_,_,_,_,_,_,_,_,_,_,_,_,_,_,_,_,_,_,_,_,_,_,_,_,_,_,_,_,_,_,_,_,_,_,_,_,_,_,_,_,_]) rfl ?_
 have G := Mod.refl No w
 have hAl0 := hAl
 have hBl0 := hBl
 refine wp_seq_k fun K1 hK1 => ?_
 refine Sb 44 rfl ?_  -- 0
 refine S_box (cs := [_, _]) rfl rfl ?_
 intro b1 w1 fb1 g1 B1
 have lb1 := B1.lt
 replace hAl := hAl.grow g1
 replace hBl := hBl.grow g1
 replace G := G.grow g1
 have zg1 := g1.size
 refine S_alloc (cs := [_, _]) zr32 rfl ?_
 intro b2 w2 fb2 g2 B2
 have lb2 := B2.lt
 replace hAl := hAl.grow g2
 replace hBl := hBl.grow g2
 replace G := G.grow g2
 replace B1 := B1.grow g2
 have zg2 := g2.size
 refine S_nl rfl rfl ?_
 refine th_n (hK1 _ _ ?_)
 clear hK1 K1
 refine wp_seq_k fun K2 hK2 => ?_
 refine Sb 44 rfl ?_  -- 1
 refine S_bs0 Try.underlying23 sz3 ?_
 intro b3 w3 fb3 g3 B3
 have lb3 := B3.lt
 replace hAl := hAl.grow g3
 replace hBl := hBl.grow g3
 replace G := G.grow g3
 replace B1 := B1.grow g3
 replace B2 := B2.grow g3
 have zg3 := g3.size
 refine S_val (Y_field Try.underlying32 rfl fz32_1 (by decide) rfl) ?_
 refine S_val (Y_load Try.underlying23 rfl rfl (B1.at (by rfl))) ?_  -- l1
 have OY : OW (fun i => b2 < i) w3 3 1 (some ⟨b3, 0, none⟩) 0 0 [] := OW.of_blk B3 rfl (by decide) (by omega)
 refine S_app0 (news := ints h.roots) Try.underlying23 zr3 sz3 by3 rfl rfl OY (by rw [ints_len]; omega) (by have hsr := Src.r1 hBl; rw [ints_len] at hsr; exact hsr) ints_one (by omega) (Pr' := fun i => b2 < i) (fun i hi => hi) (by omega) ?_
 intro A4 cap4 w4 X4 m4
 replace OY := X4
 clear X4
 replace G := G.abv m4
 replace hAl := hAl0.grow G
 replace hBl := hBl0.grow G
 replace B1 := B1.md m4
 replace B2 := B2.md m4
 have zm4 := m4.size
 have OX := OY.lt
 obtain ⟨AR, rfl⟩ : ∃ x, x = A4 := ⟨_, rfl⟩
 obtain ⟨capR, rfl⟩ : ∃ x, x = cap4 := ⟨_, rfl⟩
 clear OY
 refine S_val (Y_build (cs := [_, _]) zr32 pc32 rfl rfl) ?_
 refine S_alloc (cs := [_, _]) zr32 rfl ?_
 intro b5 w5 fb5 g5 B5
 have lb5 := B5.lt
 replace hAl := hAl.grow g5
 replace hBl := hBl.grow g5
 replace OX := OX.grow g5
 replace G := G.grow g5
 replace B1 := B1.grow g5
 replace B2 := B2.grow g5
 have zg5 := g5.size
 refine S_stM (pre := []) (old := [_, _]) (post := []) (vs := [_, _]) sz32 rfl rfl rfl (by first | rfl | assumption) B5 rfl rfl ?_
 intro w6 m6 X6
 replace B5 := Blk.eq (ys := [_, _]) X6 rfl
 clear X6
 replace G := G.abv m6
 replace hAl := hAl0.grow G
 replace hBl := hBl0.grow G
 replace OX := OX.md m6
 replace B1 := B1.md m6
 replace B2 := B2.md m6
 have zm6 := m6.size
 refine S_nl rfl rfl ?_
 refine th_n (hK2 _ _ ?_)
 clear hK2 K2
 refine wp_seq_k fun K3 hK3 => ?_
 refine wp_seq_k fun K4 hK4 => ?_
 refine Sb 44 rfl ?_  -- 2
 refine S_val (Y_assign rfl) ?_
 refine S_nl rfl rfl ?_
 refine th_n (hK4 _ _ ?_)
 clear hK4 K4
 refine wp_block ?_
 obtain ⟨wz, hwz⟩ : ∃ x, x = w6.heap.size := ⟨_, rfl⟩
 have OC1 : OW (fun i => wz ≤ i) w6 63 3 none 0 0 (flatC ([] : List LC) []) := OW.nil _ _ _ _
 have OR1 : ORs (fun i => wz ≤ i) w6 3 ([] : List LC) [] := ORs.nil _ _ _
 go_loopw [4] (fun u4 wr => (∃ (k q cap : Nat) (A1 : Option Addr) (rs : List (Option Addr × Nat)), u4 = .int .i64 k ∧ k ≤ h.cells.length ∧ q = k ∧ Blk wr b5 32 [.slice A1 q cap, .slice AR h.roots.length capR].toArray ∧ OW (fun i => wz ≤ i) wr 63 3 A1 q cap (flatC (h.cells.take k) rs) ∧ ORs (fun i => wz ≤ i) wr 3 (h.cells.take k) rs) ∧ Mod (fun i => i = b5 ∨ (wz ≤ i) ∨ wz ≤ i) w6 wr) (fun u4 wr => h.cells.length - (intOf u4).toNat)  -- L1
 case atStart =>
  refine ⟨?_, Mod.refl _ _⟩
  exact ⟨0, 0, _, _, [], rfl, by omega, rfl, B5, OC1, OR1⟩
 case round =>
  obtain ⟨w7, rfl⟩ : ∃ x : World, x = wr := ⟨_, rfl⟩
  obtain ⟨hrel, g7⟩ := hrel
  clear B5
  clear OC1
  clear OR1
  replace G := G.abv g7
  replace hAl := hAl0.grow G
  replace hBl := hBl0.grow G
  replace OX := OX.md g7
  replace B1 := B1.md g7
  replace B2 := B2.md g7
  have zg7 := g7.size
  obtain ⟨k, q1, cap1, A1, rs, rfl, hk, hq1, B5, OC1, OR1⟩ := hrel
  have hlk : (h.cells.take k).length = k := by simp; omega
  have GL7 := g7
  refine wp_seq_k fun K5 hK5 => ?_
  refine wp_seq_k fun K6 hK6 => ?_
  refine Sb 44 rfl ?_  -- 3
  refine S_val (Y_move rfl) ?_
  refine S_val (Y_field Try.underlying32 rfl fz32_0 (by decide) rfl) ?_
  refine S_val (Y_load Try.underlying30 rfl rfl (B1.at (by rfl))) ?_  -- l2
  refine S_val (Y_len Try.underlying30 rfl) ?_
  refine S_val (Y_lss rfl rfl) ?_
  refine S_nl rfl rfl ?_
  refine th_n (hK6 _ _ ?_)
  clear hK6 K6
  refine S_if rfl (fun hb1 => ?_) (fun hb1 => ?_)  -- c1
  · -- c1T
   replace hb1 := nb_tt hb1
   have hk1 : k < h.cells.length := by omega
   obtain ⟨g2, o2, E2, d2, rfl, hp2, cc20, hE20⟩ := hAl0.cell hk1
   have cc2 := cc20.grow G
   have hE2 := hE20.grow G
   have hr1 := hsize_refs h hk1
   replace OC1 := OC1.lt
   replace OR1 := OR1.lt
   refine wp_skip ?_
   refine th_n (hK5 _ _ ?_)
   clear hK5 K5
   refine wp_seq_k fun K7 hK7 => ?_
   refine wp_block ?_
   refine D_start 27 44 (fun w => Mod (fun i => i = b5 ∨ wz ≤ i) w) follows rfl rfl ?_  -- d1 r5
   intro w8 g8
   replace hAl := hAl.grow g8
   replace hBl := hBl.grow g8
   replace cc2 := cc2.grow g8
   replace hE2 := hE2.grow g8
   replace OX := OX.grow g8
   replace OC1 := OC1.grow g8
   replace OR1 := OR1.grow g8
   replace G := G.grow g8
   replace GL7 := GL7.grow g8
   replace B1 := B1.grow g8
   replace B2 := B2.grow g8
   replace B5 := B5.grow g8
   have zg8 := g8.size
   have GS8 := Mod.refl (fun i => i = b5 ∨ wz ≤ i) w8
   refine Dq (i := 0) rfl GS8 (fun _ _ => Y_field Try.underlying32 rfl fz32_0 (by decide) rfl) ?_
   refine Dq (i := 2) rfl GS8 (fun _ _ => Y_field Try.underlying32 rfl fz32_0 (by decide) rfl) ?_
   refine Dq (i := 3) rfl GS8 (fun _ hs => Y_load Try.underlying30 rfl rfl (by first | exact hs.cell (B1.at (by rfl)) (by intro h; first | omega | (dsimp only at h; omega)))) ?_
   refine Dq (i := 4) rfl GS8 (fun _ _ => Y_move rfl) ?_
   refine Dq (i := 5) rfl GS8 (fun _ _ => Y_index Try.underlying30 sz63 rfl rfl (by first | assumption | omega)) ?_
   refine Dq (i := 6) rfl GS8 (fun _ _ => Y_field Try.underlying63 rfl fz63_0 (by decide) rfl) ?_
   refine Dq (i := 7) rfl GS8 (fun _ hs => Y_load Try.underlying4 rfl rfl (by first | exact hs.cell (by assumption) (by intro h; first | omega | (dsimp only at h; omega)) | exact hs.cell (cc2.at (by rfl)) (by intro h; first | omega | (dsimp only at h; omega)) | exact hs.cell (B1.at (by rfl)) (by intro h; first | omega | (dsimp only at h; omega)) | exact hs.cell (B2.at (by rfl)) (by intro h; first | omega | (dsimp only at h; omega)) | exact hs.cell (B5.at (by rfl)) (by intro h; first | omega | (dsimp only at h; omega)))) ?_
   refine Dq (i := 8) rfl GS8 (fun _ _ => Y_field Try.underlying32 rfl fz32_0 (by decide) rfl) ?_
   refine Dq (i := 9) rfl GS8 (fun _ hs => Y_load Try.underlying30 rfl rfl (by first | exact hs.cell (B1.at (by rfl)) (by intro h; first | omega | (dsimp only at h; omega)))) ?_
   refine Dq (i := 10) rfl GS8 (fun _ _ => Y_move rfl) ?_
   refine Dq (i := 11) rfl GS8 (fun _ _ => Y_index Try.underlying30 sz63 rfl rfl (by first | assumption | omega)) ?_
   refine Dq (i := 12) rfl GS8 (fun _ _ => Y_field Try.underlying63 rfl fz63_1 (by decide) rfl) ?_
   refine Dq (i := 13) rfl GS8 (fun _ hs => Y_load Try.underlying3 rfl rfl (by first | exact hs.cell (by assumption) (by intro h; first | omega | (dsimp only at h; omega)) | exact hs.cell (cc2.at (by rfl)) (by intro h; first | omega | (dsimp only at h; omega)) | exact hs.cell (B1.at (by rfl)) (by intro h; first | omega | (dsimp only at h; omega)) | exact hs.cell (B2.at (by rfl)) (by intro h; first | omega | (dsimp only at h; omega)) | exact hs.cell (B5.at (by rfl)) (by intro h; first | omega | (dsimp only at h; omega)))) ?_
   refine Dq (i := 15) rfl GS8 (fun _ _ => Y_field Try.underlying32 rfl fz32_0 (by decide) rfl) ?_
   refine Dq (i := 16) rfl GS8 (fun _ hs => Y_load Try.underlying30 rfl rfl (by first | exact hs.cell (B1.at (by rfl)) (by intro h; first | omega | (dsimp only at h; omega)))) ?_
   refine Dq (i := 17) rfl GS8 (fun _ _ => Y_move rfl) ?_
   refine Dq (i := 18) rfl GS8 (fun _ _ => Y_index Try.underlying30 sz63 rfl rfl (by first | assumption | omega)) ?_
   refine Dq (i := 19) rfl GS8 (fun _ _ => Y_field Try.underlying63 rfl fz63_2 (by decide) rfl) ?_
   refine Dq (i := 20) rfl GS8 (fun _ hs => Y_load Try.underlying23 rfl rfl (by first | exact hs.cell (by assumption) (by intro h; first | omega | (dsimp only at h; omega)) | exact hs.cell (cc2.at (by rfl)) (by intro h; first | omega | (dsimp only at h; omega)) | exact hs.cell (B1.at (by rfl)) (by intro h; first | omega | (dsimp only at h; omega)) | exact hs.cell (B2.at (by rfl)) (by intro h; first | omega | (dsimp only at h; omega)) | exact hs.cell (B5.at (by rfl)) (by intro h; first | omega | (dsimp only at h; omega)))) ?_
   refine D_2 (i := 1) (j := 14) (by kernel_rfl) ?_ ?_
   · -- operation 1 comes up
    refine E_val (i := 1) rfl (Y_load Try.underlying30 rfl rfl (B5.at (by rfl))) GS8 ?_
    refine D_1 (i := 14) (by kernel_rfl) ?_
    refine E_bs0 (i := 14) rfl Try.underlying23 sz3 ?_
    intro b10 w10 fb10 g10 B10
    refine ⟨GS8.grow g10, ?_⟩
    have lb10 := B10.lt
    replace hAl := hAl.grow g10
    replace hBl := hBl.grow g10
    replace cc2 := cc2.grow g10
    replace hE2 := hE2.grow g10
    replace OX := OX.grow g10
    replace OC1 := OC1.grow g10
    replace OR1 := OR1.grow g10
    replace G := G.grow g10
    replace GL7 := GL7.grow g10
    replace GS8 := GS8.grow g10
    replace B1 := B1.grow g10
    replace B2 := B2.grow g10
    replace B5 := B5.grow g10
    have zg10 := g10.size
    refine D_1 (i := 21) (by kernel_rfl) ?_
    have OY : OW (fun i => b10 ≤ i) w10 3 1 (some ⟨b10, 0, none⟩) 0 0 [] := OW.of_blk B10 rfl (by decide) (Nat.le_refl _)
    refine E_app0 (i := 21) rfl (news := ints h.cells[k].refs) Try.underlying23 zr3 sz3 by3 rfl rfl OY (by rw [ints_len]; omega) (by have hsr := Src.r1 hE2; rw [ints_len] at hsr; exact hsr) ints_one (by omega) (Pr' := fun i => b10 ≤ i) (fun i hi => hi) (by omega) ?_
    intro A11 cap11 w11 X11 m11
    replace OY := X11
    clear X11
    replace G := G.abv m11
    first | replace GL7 := GL7.abv m11 | clear GL7
    replace GS8 := GS8.abv m11
    replace hAl := hAl0.grow G
    replace hBl := hBl0.grow G
    replace cc2 := cc20.grow G
    replace hE2 := hE20.grow G
    replace OX := OX.md m11
    replace OC1 := OC1.md m11
    replace OR1 := OR1.md m11
    replace B1 := B1.md m11
    replace B2 := B2.md m11
    replace B5 := B5.md m11
    have zm11 := m11.size
    refine ⟨GS8, ?_⟩
    obtain ⟨AY, rfl⟩ : ∃ x, x = A11 := ⟨_, rfl⟩
    obtain ⟨capY, rfl⟩ : ∃ x, x = cap11 := ⟨_, rfl⟩
    refine Dq (i := 22) rfl GS8 (fun _ _ => Y_build (cs := [_, _, _]) zr63 pc63 rfl rfl) ?_
    refine D_1 (i := 23) (by kernel_rfl) ?_
    refine E_bs1 (cs := [_, _, _]) (i := 23) rfl Try.underlying30 zr63 sz63 rfl rfl rfl ?_
    intro b12 w12 fb12 g12 B12
    refine ⟨GS8.grow g12, ?_⟩
    have lb12 := B12.lt
    replace hAl := hAl.grow g12
    replace hBl := hBl.grow g12
    replace cc2 := cc2.grow g12
    replace hE2 := hE2.grow g12
    replace OX := OX.grow g12
    replace OC1 := OC1.grow g12
    replace OR1 := OR1.grow g12
    replace OY := OY.grow g12
    replace G := G.grow g12
    replace GL7 := GL7.grow g12
    replace GS8 := GS8.grow g12
    replace B1 := B1.grow g12
    replace B2 := B2.grow g12
    replace B5 := B5.grow g12
    have zg12 := g12.size
    refine D_1 (i := 24) (by kernel_rfl) ?_
    refine E_app2 (i := 24) rfl Try.underlying30 zr63 sz63 by63 rfl rfl OC1 rfl (Src.blk B12) (by simp [Value.oneCell']) (by omega) (Pr' := fun i => (wz ≤ i)) (fun i hi => by omega) (by omega) ?_
    intro A13 cap13 w13 X13 m13 n13
    replace OR1 := OR1.app OC1 hne n13
    replace OC1 := X13
    clear X13 n13
    replace G := G.abv m13
    replace GL7 := GL7.trn m13
    replace GS8 := GS8.trn m13
    replace hAl := hAl0.grow G
    replace hBl := hBl0.grow G
    replace cc2 := cc20.grow G
    replace hE2 := hE20.grow G
    replace OX := OX.md m13
    replace OY := OY.md m13
    replace B1 := B1.md m13
    replace B2 := B2.md m13
    replace B5 := B5.md m13
    have zm13 := m13.size
    refine ⟨GS8, ?_⟩
    have OR2 := OR1.more (c := h.cells[k]) OY (fun i hi => by omega) (Pr' := fun i => wz ≤ i) (fun i hi => by omega) (fun i hi => by omega)
    replace OC1 : OW (fun i => (wz ≤ i)) w13 63 3 A13 (q1 + 1) cap13 (flatC (h.cells.take (k + 1)) (rs ++ [(AY, capY)])) := by rw [List.take_succ_eq_append_getElem hk1, ← flat_more OR1.len]; exact OC1
    rw [← List.take_succ_eq_append_getElem hk1] at OR2
    refine Dq (i := 25) rfl GS8 (fun _ _ => Y_field Try.underlying32 rfl fz32_0 (by decide) rfl) ?_
    refine D_1 (i := 26) (by kernel_rfl) ?_
    refine E_stM (pre := []) (old := [_]) (post := [_]) (vs := [_]) (i := 26) rfl sz30 rfl rfl rfl (by first | rfl | assumption) B5 rfl rfl ?_
    intro w14 m14 X14
    replace B5 := Blk.eq (ys := [_, _]) X14 rfl
    clear X14
    replace G := G.abv m14
    replace GL7 := GL7.trn m14
    replace GS8 := GS8.trn m14
    replace hAl := hAl0.grow G
    replace hBl := hBl0.grow G
    replace cc2 := cc20.grow G
    replace hE2 := hE20.grow G
    replace OX := OX.md m14
    replace OC1 := OC1.md m14
    replace OR2 := OR2.md m14
    replace B1 := B1.md m14
    replace B2 := B2.md m14
    have zm14 := m14.size
    refine ⟨GS8, ?_⟩
    refine D_en (by kernel_rfl) rfl rfl ?_
    refine ib_n ?_
    refine th_n (hK7 _ _ ?_)
    clear hK7 K7
    refine Sb 44 rfl ?_  -- 4
    refine S_val (Y_move rfl) ?_
    refine S_val (Y_inc rfl rfl (by omega)) ?_
    refine S_val (Y_assign rfl) ?_
    refine S_nl rfl rfl ?_
    refine th_n ?_
    go_roundw  -- e1 of L1
    case rel =>
     refine ⟨?_, GL7⟩
     exact ⟨k + 1, _, _, _, _, rfl, by omega, by omega, B5, OC1, OR2⟩
    case measure =>
     exact dec_nat (by omega)
   · -- operation 14 comes up
    refine E_bs0 (i := 14) rfl Try.underlying23 sz3 ?_
    intro b15 w15 fb15 g15 B15
    refine ⟨GS8.grow g15, ?_⟩
    have lb15 := B15.lt
    replace hAl := hAl.grow g15
    replace hBl := hBl.grow g15
    replace cc2 := cc2.grow g15
    replace hE2 := hE2.grow g15
    replace OX := OX.grow g15
    replace OC1 := OC1.grow g15
    replace OR1 := OR1.grow g15
    replace G := G.grow g15
    replace GL7 := GL7.grow g15
    replace GS8 := GS8.grow g15
    replace B1 := B1.grow g15
    replace B2 := B2.grow g15
    replace B5 := B5.grow g15
    have zg15 := g15.size
    refine D_2 (i := 1) (j := 21) (by kernel_rfl) ?_ ?_
    · -- operation 1 comes up
     refine E_val (i := 1) rfl (Y_load Try.underlying30 rfl rfl (B5.at (by rfl))) GS8 ?_
     refine D_1 (i := 21) (by kernel_rfl) ?_
     have OY : OW (fun i => b15 ≤ i) w15 3 1 (some ⟨b15, 0, none⟩) 0 0 [] := OW.of_blk B15 rfl (by decide) (Nat.le_refl _)
     refine E_app0 (i := 21) rfl (news := ints h.cells[k].refs) Try.underlying23 zr3 sz3 by3 rfl rfl OY (by rw [ints_len]; omega) (by have hsr := Src.r1 hE2; rw [ints_len] at hsr; exact hsr) ints_one (by omega) (Pr' := fun i => b15 ≤ i) (fun i hi => hi) (by omega) ?_
     intro A17 cap17 w17 X17 m17
     replace OY := X17
     clear X17
     replace G := G.abv m17
     first | replace GL7 := GL7.abv m17 | clear GL7
     replace GS8 := GS8.abv m17
     replace hAl := hAl0.grow G
     replace hBl := hBl0.grow G
     replace cc2 := cc20.grow G
     replace hE2 := hE20.grow G
     replace OX := OX.md m17
     replace OC1 := OC1.md m17
     replace OR1 := OR1.md m17
     replace B1 := B1.md m17
     replace B2 := B2.md m17
     replace B5 := B5.md m17
     have zm17 := m17.size
     refine ⟨GS8, ?_⟩
     obtain ⟨AY, rfl⟩ : ∃ x, x = A17 := ⟨_, rfl⟩
     obtain ⟨capY, rfl⟩ : ∃ x, x = cap17 := ⟨_, rfl⟩
     refine Dq (i := 22) rfl GS8 (fun _ _ => Y_build (cs := [_, _, _]) zr63 pc63 rfl rfl) ?_
     refine D_1 (i := 23) (by kernel_rfl) ?_
     refine E_bs1 (cs := [_, _, _]) (i := 23) rfl Try.underlying30 zr63 sz63 rfl rfl rfl ?_
     intro b18 w18 fb18 g18 B18
     refine ⟨GS8.grow g18, ?_⟩
     have lb18 := B18.lt
     replace hAl := hAl.grow g18
     replace hBl := hBl.grow g18
     replace cc2 := cc2.grow g18
     replace hE2 := hE2.grow g18
     replace OX := OX.grow g18
     replace OC1 := OC1.grow g18
     replace OR1 := OR1.grow g18
     replace OY := OY.grow g18
     replace G := G.grow g18
     replace GL7 := GL7.grow g18
     replace GS8 := GS8.grow g18
     replace B1 := B1.grow g18
     replace B2 := B2.grow g18
     replace B5 := B5.grow g18
     have zg18 := g18.size
     refine D_1 (i := 24) (by kernel_rfl) ?_
     refine E_app2 (i := 24) rfl Try.underlying30 zr63 sz63 by63 rfl rfl OC1 rfl (Src.blk B18) (by simp [Value.oneCell']) (by omega) (Pr' := fun i => (wz ≤ i)) (fun i hi => by omega) (by omega) ?_
     intro A19 cap19 w19 X19 m19 n19
     replace OR1 := OR1.app OC1 hne n19
     replace OC1 := X19
     clear X19 n19
     replace G := G.abv m19
     replace GL7 := GL7.trn m19
     replace GS8 := GS8.trn m19
     replace hAl := hAl0.grow G
     replace hBl := hBl0.grow G
     replace cc2 := cc20.grow G
     replace hE2 := hE20.grow G
     replace OX := OX.md m19
     replace OY := OY.md m19
     replace B1 := B1.md m19
     replace B2 := B2.md m19
     replace B5 := B5.md m19
     have zm19 := m19.size
     refine ⟨GS8, ?_⟩
     have OR2 := OR1.more (c := h.cells[k]) OY (fun i hi => by omega) (Pr' := fun i => wz ≤ i) (fun i hi => by omega) (fun i hi => by omega)
     replace OC1 : OW (fun i => (wz ≤ i)) w19 63 3 A19 (q1 + 1) cap19 (flatC (h.cells.take (k + 1)) (rs ++ [(AY, capY)])) := by rw [List.take_succ_eq_append_getElem hk1, ← flat_more OR1.len]; exact OC1
     rw [← List.take_succ_eq_append_getElem hk1] at OR2
     refine Dq (i := 25) rfl GS8 (fun _ _ => Y_field Try.underlying32 rfl fz32_0 (by decide) rfl) ?_
     refine D_1 (i := 26) (by kernel_rfl) ?_
     refine E_stM (pre := []) (old := [_]) (post := [_]) (vs := [_]) (i := 26) rfl sz30 rfl rfl rfl (by first | rfl | assumption) B5 rfl rfl ?_
     intro w20 m20 X20
     replace B5 := Blk.eq (ys := [_, _]) X20 rfl
     clear X20
     replace G := G.abv m20
     replace GL7 := GL7.trn m20
     replace GS8 := GS8.trn m20
     replace hAl := hAl0.grow G
     replace hBl := hBl0.grow G
     replace cc2 := cc20.grow G
     replace hE2 := hE20.grow G
     replace OX := OX.md m20
     replace OC1 := OC1.md m20
     replace OR2 := OR2.md m20
     replace B1 := B1.md m20
     replace B2 := B2.md m20
     have zm20 := m20.size
     refine ⟨GS8, ?_⟩
     refine D_en (by kernel_rfl) rfl rfl ?_
     refine ib_n ?_
     refine th_n (hK7 _ _ ?_)
     clear hK7 K7
     refine Sb 44 rfl ?_  -- 4
     refine S_val (Y_move rfl) ?_
     refine S_val (Y_inc rfl rfl (by omega)) ?_
     refine S_val (Y_assign rfl) ?_
     refine S_nl rfl rfl ?_
     refine th_n ?_
     go_roundw  -- e2 of L1
     case rel =>
      refine ⟨?_, GL7⟩
      exact ⟨k + 1, _, _, _, _, rfl, by omega, by omega, B5, OC1, OR2⟩
     case measure =>
      exact dec_nat (by omega)
    · -- operation 21 comes up
     have OY : OW (fun i => b15 ≤ i) w15 3 1 (some ⟨b15, 0, none⟩) 0 0 [] := OW.of_blk B15 rfl (by decide) (Nat.le_refl _)
     refine E_app0 (i := 21) rfl (news := ints h.cells[k].refs) Try.underlying23 zr3 sz3 by3 rfl rfl OY (by rw [ints_len]; omega) (by have hsr := Src.r1 hE2; rw [ints_len] at hsr; exact hsr) ints_one (by omega) (Pr' := fun i => b15 ≤ i) (fun i hi => hi) (by omega) ?_
     intro A21 cap21 w21 X21 m21
     replace OY := X21
     clear X21
     replace G := G.abv m21
     first | replace GL7 := GL7.abv m21 | clear GL7
     replace GS8 := GS8.abv m21
     replace hAl := hAl0.grow G
     replace hBl := hBl0.grow G
     replace cc2 := cc20.grow G
     replace hE2 := hE20.grow G
     replace OX := OX.md m21
     replace OC1 := OC1.md m21
     replace OR1 := OR1.md m21
     replace B1 := B1.md m21
     replace B2 := B2.md m21
     replace B5 := B5.md m21
     have zm21 := m21.size
     refine ⟨GS8, ?_⟩
     obtain ⟨AY, rfl⟩ : ∃ x, x = A21 := ⟨_, rfl⟩
     obtain ⟨capY, rfl⟩ : ∃ x, x = cap21 := ⟨_, rfl⟩
     refine Dq (i := 22) rfl GS8 (fun _ _ => Y_build (cs := [_, _, _]) zr63 pc63 rfl rfl) ?_
     refine D_2 (i := 1) (j := 23) (by kernel_rfl) ?_ ?_
     · -- operation 1 comes up
      refine E_val (i := 1) rfl (Y_load Try.underlying30 rfl rfl (B5.at (by rfl))) GS8 ?_
      refine D_1 (i := 23) (by kernel_rfl) ?_
      refine E_bs1 (cs := [_, _, _]) (i := 23) rfl Try.underlying30 zr63 sz63 rfl rfl rfl ?_
      intro b23 w23 fb23 g23 B23
      refine ⟨GS8.grow g23, ?_⟩
      have lb23 := B23.lt
      replace hAl := hAl.grow g23
      replace hBl := hBl.grow g23
      replace cc2 := cc2.grow g23
      replace hE2 := hE2.grow g23
      replace OX := OX.grow g23
      replace OC1 := OC1.grow g23
      replace OR1 := OR1.grow g23
      replace OY := OY.grow g23
      replace G := G.grow g23
      replace GL7 := GL7.grow g23
      replace GS8 := GS8.grow g23
      replace B1 := B1.grow g23
      replace B2 := B2.grow g23
      replace B5 := B5.grow g23
      have zg23 := g23.size
      refine D_1 (i := 24) (by kernel_rfl) ?_
      refine E_app2 (i := 24) rfl Try.underlying30 zr63 sz63 by63 rfl rfl OC1 rfl (Src.blk B23) (by simp [Value.oneCell']) (by omega) (Pr' := fun i => (wz ≤ i)) (fun i hi => by omega) (by omega) ?_
      intro A24 cap24 w24 X24 m24 n24
      replace OR1 := OR1.app OC1 hne n24
      replace OC1 := X24
      clear X24 n24
      replace G := G.abv m24
      replace GL7 := GL7.trn m24
      replace GS8 := GS8.trn m24
      replace hAl := hAl0.grow G
      replace hBl := hBl0.grow G
      replace cc2 := cc20.grow G
      replace hE2 := hE20.grow G
      replace OX := OX.md m24
      replace OY := OY.md m24
      replace B1 := B1.md m24
      replace B2 := B2.md m24
      replace B5 := B5.md m24
      have zm24 := m24.size
      refine ⟨GS8, ?_⟩
      have OR2 := OR1.more (c := h.cells[k]) OY (fun i hi => by omega) (Pr' := fun i => wz ≤ i) (fun i hi => by omega) (fun i hi => by omega)
      replace OC1 : OW (fun i => (wz ≤ i)) w24 63 3 A24 (q1 + 1) cap24 (flatC (h.cells.take (k + 1)) (rs ++ [(AY, capY)])) := by rw [List.take_succ_eq_append_getElem hk1, ← flat_more OR1.len]; exact OC1
      rw [← List.take_succ_eq_append_getElem hk1] at OR2
      refine Dq (i := 25) rfl GS8 (fun _ _ => Y_field Try.underlying32 rfl fz32_0 (by decide) rfl) ?_
      refine D_1 (i := 26) (by kernel_rfl) ?_
      refine E_stM (pre := []) (old := [_]) (post := [_]) (vs := [_]) (i := 26) rfl sz30 rfl rfl rfl (by first | rfl | assumption) B5 rfl rfl ?_
      intro w25 m25 X25
      replace B5 := Blk.eq (ys := [_, _]) X25 rfl
      clear X25
      replace G := G.abv m25
      replace GL7 := GL7.trn m25
      replace GS8 := GS8.trn m25
      replace hAl := hAl0.grow G
      replace hBl := hBl0.grow G
      replace cc2 := cc20.grow G
      replace hE2 := hE20.grow G
      replace OX := OX.md m25
      replace OC1 := OC1.md m25
      replace OR2 := OR2.md m25
      replace B1 := B1.md m25
      replace B2 := B2.md m25
      have zm25 := m25.size
      refine ⟨GS8, ?_⟩
      refine D_en (by kernel_rfl) rfl rfl ?_
      refine ib_n ?_
      refine th_n (hK7 _ _ ?_)
      clear hK7 K7
      refine Sb 44 rfl ?_  -- 4
      refine S_val (Y_move rfl) ?_
      refine S_val (Y_inc rfl rfl (by omega)) ?_
      refine S_val (Y_assign rfl) ?_
      refine S_nl rfl rfl ?_
      refine th_n ?_
      go_roundw  -- e3 of L1
      case rel =>
       refine ⟨?_, GL7⟩
       exact ⟨k + 1, _, _, _, _, rfl, by omega, by omega, B5, OC1, OR2⟩
      case measure =>
       exact dec_nat (by omega)
     · -- operation 23 comes up
      refine E_bs1 (cs := [_, _, _]) (i := 23) rfl Try.underlying30 zr63 sz63 rfl rfl rfl ?_
      intro b26 w26 fb26 g26 B26
      refine ⟨GS8.grow g26, ?_⟩
      have lb26 := B26.lt
      replace hAl := hAl.grow g26
      replace hBl := hBl.grow g26
      replace cc2 := cc2.grow g26
      replace hE2 := hE2.grow g26
      replace OX := OX.grow g26
      replace OC1 := OC1.grow g26
      replace OR1 := OR1.grow g26
      replace OY := OY.grow g26
      replace G := G.grow g26
      replace GL7 := GL7.grow g26
      replace GS8 := GS8.grow g26
      replace B1 := B1.grow g26
      replace B2 := B2.grow g26
      replace B5 := B5.grow g26
      have zg26 := g26.size
      refine D_1 (i := 1) (by kernel_rfl) ?_
      refine E_val (i := 1) rfl (Y_load Try.underlying30 rfl rfl (B5.at (by rfl))) GS8 ?_
      refine D_1 (i := 24) (by kernel_rfl) ?_
      refine E_app2 (i := 24) rfl Try.underlying30 zr63 sz63 by63 rfl rfl OC1 rfl (Src.blk B26) (by simp [Value.oneCell']) (by omega) (Pr' := fun i => (wz ≤ i)) (fun i hi => by omega) (by omega) ?_
      intro A28 cap28 w28 X28 m28 n28
      replace OR1 := OR1.app OC1 hne n28
      replace OC1 := X28
      clear X28 n28
      replace G := G.abv m28
      replace GL7 := GL7.trn m28
      replace GS8 := GS8.trn m28
      replace hAl := hAl0.grow G
      replace hBl := hBl0.grow G
      replace cc2 := cc20.grow G
      replace hE2 := hE20.grow G
      replace OX := OX.md m28
      replace OY := OY.md m28
      replace B1 := B1.md m28
      replace B2 := B2.md m28
      replace B5 := B5.md m28
      have zm28 := m28.size
      refine ⟨GS8, ?_⟩
      have OR2 := OR1.more (c := h.cells[k]) OY (fun i hi => by omega) (Pr' := fun i => wz ≤ i) (fun i hi => by omega) (fun i hi => by omega)
      replace OC1 : OW (fun i => (wz ≤ i)) w28 63 3 A28 (q1 + 1) cap28 (flatC (h.cells.take (k + 1)) (rs ++ [(AY, capY)])) := by rw [List.take_succ_eq_append_getElem hk1, ← flat_more OR1.len]; exact OC1
      rw [← List.take_succ_eq_append_getElem hk1] at OR2
      refine Dq (i := 25) rfl GS8 (fun _ _ => Y_field Try.underlying32 rfl fz32_0 (by decide) rfl) ?_
      refine D_1 (i := 26) (by kernel_rfl) ?_
      refine E_stM (pre := []) (old := [_]) (post := [_]) (vs := [_]) (i := 26) rfl sz30 rfl rfl rfl (by first | rfl | assumption) B5 rfl rfl ?_
      intro w29 m29 X29
      replace B5 := Blk.eq (ys := [_, _]) X29 rfl
      clear X29
      replace G := G.abv m29
      replace GL7 := GL7.trn m29
      replace GS8 := GS8.trn m29
      replace hAl := hAl0.grow G
      replace hBl := hBl0.grow G
      replace cc2 := cc20.grow G
      replace hE2 := hE20.grow G
      replace OX := OX.md m29
      replace OC1 := OC1.md m29
      replace OR2 := OR2.md m29
      replace B1 := B1.md m29
      replace B2 := B2.md m29
      have zm29 := m29.size
      refine ⟨GS8, ?_⟩
      refine D_en (by kernel_rfl) rfl rfl ?_
      refine ib_n ?_
      refine th_n (hK7 _ _ ?_)
      clear hK7 K7
      refine Sb 44 rfl ?_  -- 4
      refine S_val (Y_move rfl) ?_
      refine S_val (Y_inc rfl rfl (by omega)) ?_
      refine S_val (Y_assign rfl) ?_
      refine S_nl rfl rfl ?_
      refine th_n ?_
      go_roundw  -- e4 of L1
      case rel =>
       refine ⟨?_, GL7⟩
       exact ⟨k + 1, _, _, _, _, rfl, by omega, by omega, B5, OC1, OR2⟩
      case measure =>
       exact dec_nat (by omega)
  · -- c1F
   replace hb1 := nb_tf hb1
   refine wp_exit ?_
   refine th_x ?_
   try clear GL7
   refine th_x ?_
   refine ib_e ?_
   refine th_n (hK3 _ _ ?_)
   clear hK5 K5 hK3 K3
   refine wp_seq_k fun K8 hK8 => ?_
   refine Sb 44 rfl ?_  -- 6
   refine S_val (Y_loadS Try.underlying32 rfl sz32 rfl (B5.row (by rfl))) ?_  -- l9
   refine S_stM (pre := []) (old := [_, _]) (post := []) (vs := [_, _]) sz32 rfl rfl rfl (by first | rfl | assumption) B2 rfl rfl ?_
   intro w30 m30 X30
   replace B2 := Blk.eq (ys := [_, _]) X30 rfl
   clear X30
   replace G := G.abv m30
   replace hAl := hAl0.grow G
   replace hBl := hBl0.grow G
   replace OX := OX.md m30
   replace OC1 := OC1.md m30
   replace OR1 := OR1.md m30
   replace B1 := B1.md m30
   replace B5 := B5.md m30
   have zm30 := m30.size
   refine S_nl rfl rfl ?_
   refine th_n (hK8 _ _ ?_)
   clear hK8 K8
   refine wp_ret ?_
   refine ret_rc (cs := [_, _]) Try.underlying32 rfl sz32 rfl rfl (B2.row (by rfl)) ?_  -- r1
   rw [List.take_of_length_le (by omega)] at hlk OC1 OR1
   rw [hq1, ← hlk] at OC1
   exact ⟨_, _, _, _, _, _, rs, rfl, by omega, rfl, XH.of_parts (h := h) OR1 OC1 OX.oi OX.cap (fun k b h1 h2 h3 => by omega) (fun k hk => by omega) (fun k hk => by omega), G⟩
set_option maxHeartbeats 400000 in
set_option maxRecDepth 20000 in
theorem spec_EmptyHeap2_c (w : World) :
    Calls Try.prog 119 #[] w (Ret fun v w' => ∃ A1 B1 n1 c1 n2 c2 rs, v = .agg #[.slice A1 n1 c1, .slice B1 n2 c2] ∧ n1 = (emptyH).cells.length ∧ n2 = (emptyH).roots.length ∧ XH (fun i => w.heap.size ≤ i) w' 63 3 A1 B1 (emptyH) rs c1 c2 ∧ Grow w w') := by
 refine enter Try.func119 rfl Try.ntmps119 (L := [_,_,_,_,_,_,_,_,_,_,_,_,_,_]) rfl ?_
 have G := Mod.refl No w
 refine wp_seq_k fun K1 hK1 => ?_
 refine Sb 14 rfl ?_  -- 0
 refine S_alloc (cs := [_, _]) zr32 rfl ?_
 intro b1 w1 fb1 g1 B1
 have lb1 := B1.lt
 replace G := G.grow g1
 have zg1 := g1.size
 refine S_nl rfl rfl ?_
 refine th_n (hK1 _ _ ?_)
 clear hK1 K1
 refine wp_seq_k fun K2 hK2 => ?_
 refine Sb 14 rfl ?_  -- 1
 refine S_val (Y_build (cs := [_, _]) zr32 pc32 rfl rfl) ?_
 refine S_alloc (cs := [_, _]) zr32 rfl ?_
 intro b2 w2 fb2 g2 B2
 have lb2 := B2.lt
 replace G := G.grow g2
 replace B1 := B1.grow g2
 have zg2 := g2.size
 refine S_stM (pre := []) (old := [_, _]) (post := []) (vs := [_, _]) sz32 rfl rfl rfl (by first | rfl | assumption) B2 rfl rfl ?_
 intro w3 m3 X3
 replace B2 := Blk.eq (ys := [_, _]) X3 rfl
 clear X3
 replace G := G.abv m3
 replace B1 := B1.md m3
 have zm3 := m3.size
 refine S_nl rfl rfl ?_
 refine th_n (hK2 _ _ ?_)
 clear hK2 K2
 refine wp_seq_k fun K3 hK3 => ?_
 refine wp_seq_k fun K4 hK4 => ?_
 refine Sb 14 rfl ?_  -- 2
 refine S_val (Y_assign rfl) ?_
 refine S_nl rfl rfl ?_
 refine th_n (hK4 _ _ ?_)
 clear hK4 K4
 refine wp_block ?_
 have O2 : OW (fun i => b2 < i) w3 3 1 none 0 0 (ints (List.replicate 0 (-1))) := OW.nil _ _ _ _
 go_loopw [2] (fun u2 wr => (∃ (k q cap : Nat) (A : Option Addr), u2 = .int .i64 k ∧ k ≤ 4 ∧ q = k ∧ Blk wr b2 32 [.slice none 0 0, .slice A q cap].toArray ∧ OW (fun i => b2 < i) wr 3 1 A q cap (ints (List.replicate k (-1)))) ∧ Mod (fun i => i = b2 ∨ b2 < i) w3 wr) (fun u2 wr => 4 - (intOf u2).toNat)  -- L1
 case atStart =>
  refine ⟨?_, Mod.refl _ _⟩
  exact ⟨0, 0, 0, none, rfl, by omega, rfl, B2, O2⟩
 case round =>
  obtain ⟨w4, rfl⟩ : ∃ x : World, x = wr := ⟨_, rfl⟩
  obtain ⟨hrel, g4⟩ := hrel
  clear B2
  clear O2
  replace G := G.abv g4
  replace B1 := B1.md g4
  have zg4 := g4.size
  obtain ⟨k, q2, cap2, A2, rfl, hk, hq2, B2, O2⟩ := hrel
  have GL4 := g4
  refine wp_seq_k fun K5 hK5 => ?_
  refine wp_seq_k fun K6 hK6 => ?_
  refine Sb 14 rfl ?_  -- 3
  refine S_val (Y_move rfl) ?_
  refine S_val (Y_lss rfl rfl) ?_
  refine S_nl rfl rfl ?_
  refine th_n (hK6 _ _ ?_)
  clear hK6 K6
  refine S_if rfl (fun hb1 => ?_) (fun hb1 => ?_)  -- c1
  · -- c1T
   replace hb1 := nb_tt hb1
   refine wp_skip ?_
   refine th_n (hK5 _ _ ?_)
   clear hK5 K5
   refine wp_seq_k fun K7 hK7 => ?_
   refine wp_block ?_
   refine Sb 14 rfl ?_  -- 5
   refine S_val (Y_field Try.underlying32 rfl fz32_1 (by decide) rfl) ?_
   refine S_val (Y_load Try.underlying23 rfl rfl (B2.at (by rfl))) ?_  -- l1
   refine S_bs1 (cs := [_]) Try.underlying23 zr3 sz3 rfl rfl rfl ?_
   intro b5 w5 fb5 g5 B5
   have lb5 := B5.lt
   replace O2 := O2.grow g5
   replace G := G.grow g5
   replace GL4 := GL4.grow g5
   replace B1 := B1.grow g5
   replace B2 := B2.grow g5
   have zg5 := g5.size
   refine S_app Try.underlying23 zr3 sz3 by3 rfl rfl O2 rfl (Src.blk B5) (by simp [Value.oneCell']) (by omega) (Pr' := fun i => b2 < i) (fun i hi => hi) (by omega) ?_
   intro A6 cap6 w6 X6 m6
   replace O2 := X6
   rw [ints_app, rep_snoc] at O2
   clear X6
   replace G := G.abv m6
   replace GL4 := GL4.trn m6
   replace B1 := B1.md m6
   replace B2 := B2.md m6
   have zm6 := m6.size
   refine S_val (Y_field Try.underlying32 rfl fz32_1 (by decide) rfl) ?_
   refine S_stM (pre := [_]) (old := [_]) (post := []) (vs := [_]) sz23 rfl rfl rfl (by first | rfl | assumption) B2 rfl rfl ?_
   intro w7 m7 X7
   replace B2 := Blk.eq (ys := [_, _]) X7 rfl
   clear X7
   replace G := G.abv m7
   replace GL4 := GL4.trn m7
   replace O2 := O2.md m7
   replace B1 := B1.md m7
   have zm7 := m7.size
   refine S_nl rfl rfl ?_
   refine ib_n ?_
   refine th_n (hK7 _ _ ?_)
   clear hK7 K7
   refine Sb 14 rfl ?_  -- 4
   refine S_val (Y_move rfl) ?_
   refine S_val (Y_inc rfl rfl (by omega)) ?_
   refine S_val (Y_assign rfl) ?_
   refine S_nl rfl rfl ?_
   refine th_n ?_
   go_roundw  -- e1 of L1
   case rel =>
    refine ⟨?_, GL4⟩
    exact ⟨k + 1, _, _, _, rfl, by omega, by omega, B2, O2⟩
   case measure =>
    exact dec_nat (by omega)
  · -- c1F
   replace hb1 := nb_tf hb1
   refine wp_exit ?_
   refine th_x ?_
   try clear GL4
   refine th_x ?_
   refine ib_e ?_
   refine th_n (hK3 _ _ ?_)
   clear hK5 K5 hK3 K3
   refine wp_seq_k fun K8 hK8 => ?_
   refine Sb 14 rfl ?_  -- 6
   refine S_val (Y_loadS Try.underlying32 rfl sz32 rfl (B2.row (by rfl))) ?_  -- l2
   refine S_stM (pre := []) (old := [_, _]) (post := []) (vs := [_, _]) sz32 rfl rfl rfl (by first | rfl | assumption) B1 rfl rfl ?_
   intro w8 m8 X8
   replace B1 := Blk.eq (ys := [_, _]) X8 rfl
   clear X8
   replace G := G.abv m8
   replace O2 := O2.md m8
   replace B2 := B2.md m8
   have zm8 := m8.size
   refine S_nl rfl rfl ?_
   refine th_n (hK8 _ _ ?_)
   clear hK8 K8
   refine wp_ret ?_
   refine ret_rc (cs := [_, _]) Try.underlying32 rfl sz32 rfl rfl (B1.row (by rfl)) ?_  -- r1
   have : k = 4 := by omega
   subst this
   subst hq2
   exact ⟨_, _, _, _, _, _, [], rfl, rfl, rfl, XH.bare (O2.weak (fun i hi => by omega)), G⟩
set_option maxHeartbeats 800000 in
set_option maxRecDepth 20000 in
theorem spec_l8Do_c (Pr : Nat → Prop) (A B : Option Addr) (h : LH) (c d pl : Nat) (oop oa ob oc : Int) (w : World) (hA : RC Pr w A h.cells) (hB : R1 Pr w B (ints h.roots)) (va : Valid h) (hcv : cvP ⟨oop, oa, ob, oc⟩) (hef : effectB h ⟨oop, oa, ob, oc⟩ = true) (hpl : oop = 1 → pl ≤ h.cells.length ∧ pl < 40) :
    Calls Try.prog 127 #[.agg #[.slice A h.cells.length c, .slice B h.roots.length d], .agg #[.int .i64 oop, .int .i64 oa, .int .i64 ob, .int .i64 oc], .int .i64 (pl : Int)] w (Ret fun v w' => ∃ A1 B1 n1 c1 n2 c2 rs h2, v = .agg #[.slice A1 n1 c1, .slice B1 n2 c2] ∧ n1 = h2.cells.length ∧ n2 = h2.roots.length ∧ Valid h2 ∧ XH (fun i => w.heap.size ≤ i) w' 63 3 A1 B1 h2 rs c1 c2 ∧ Grow w w') := by
 have hne : (63 : TypeId) ≠ 3 := by decide
 have hz1 := hsize_cells h
 have hz2 := hsize_roots h
 have hsm := va.small
 have hr4 := va.roots4
 obtain ⟨pa, rfl⟩ := Int.eq_ofNat_of_zero_le (show 0 ≤ oa by unfold cvP at hcv; dsimp only at hcv; omega)
 obtain ⟨pb, rfl⟩ := Int.eq_ofNat_of_zero_le (show 0 ≤ ob by unfold cvP at hcv; dsimp only at hcv; omega)
 obtain ⟨pc, rfl⟩ := Int.eq_ofNat_of_zero_le (show 0 ≤ oc by unfold cvP at hcv; dsimp only at hcv; omega)
 have hpa : pa < h.roots.length := by unfold cvP at hcv; dsimp only at hcv; omega
 have hAl := hA.below
 have hBl := hB.below
 refine enter Try.func127 rfl Try.ntmps127 (L := [_,_,_,_,_,_,_,_,_,_,_,_,_,_,_,_,_,_,_,_,_,_,_,_,_,_,_,_,_,_,_,_,_,_,_,_,_,_,_,_,_,_,_,_,_,_,_,_,_,_,_,_,_,_,_,_,_,_,_,_,_,_,_,_,_,_,_,_,_,_,_,_,_,_,_,_,_,_,_,_,_,_,_,_,_,_,_,_,_,_,_,_,_,_,_,_,_,_,_,_,_,_,_,_,_,_,_,_,_,_,_,_,_,_,_,_,_,_,_,_,_,_,_,_,_,_,_,_,_,_,_]) rfl ?_
 have G := Mod.refl No w
 have hAl0 := hAl
 have hBl0 := hBl
 refine wp_seq_k fun K1 hK1 => ?_
 refine Sb 131 rfl ?_  -- 0
 refine S_box (cs := [_, _]) rfl rfl ?_
 intro b1 w1 fb1 g1 B1
 have lb1 := B1.lt
 replace hAl := hAl.grow g1
 replace hBl := hBl.grow g1
 replace G := G.grow g1
 have zg1 := g1.size
 refine S_box (cs := [_, _, _, _]) rfl rfl ?_
 intro b2 w2 fb2 g2 B2
 have lb2 := B2.lt
 replace hAl := hAl.grow g2
 replace hBl := hBl.grow g2
 replace G := G.grow g2
 replace B1 := B1.grow g2
 have zg2 := g2.size
 refine S_alloc (cs := [_, _]) zr32 rfl ?_
 intro b3 w3 fb3 g3 B3
 have lb3 := B3.lt
 replace hAl := hAl.grow g3
 replace hBl := hBl.grow g3
 replace G := G.grow g3
 replace B1 := B1.grow g3
 replace B2 := B2.grow g3
 have zg3 := g3.size
 refine S_nl rfl rfl ?_
 refine th_n (hK1 _ _ ?_)
 clear hK1 K1
 refine wp_seq_k fun K2 hK2 => ?_
 refine Sb 131 rfl ?_  -- 1
 refine S_val (Y_loadS Try.underlying32 rfl sz32 rfl (B1.row (by rfl))) ?_  -- l1
 refine S_call rfl en87 (spec_l7Copy2_c _ _ _ _ _ _ _ (by assumption) (by assumption) (by omega)) ?_  -- k1 spec.l7Copy
 rintro v4 w4 ⟨A4, B4, n14, c14, n24, c24, rs4, rfl, hn14, hn24, O4, g4⟩
 replace hAl := hAl.grow g4
 replace hBl := hBl.grow g4
 replace G := G.grow g4
 replace B1 := B1.grow g4
 replace B2 := B2.grow g4
 replace B3 := B3.grow g4
 have zg4 := g4.size
 subst hn14
 subst hn24
 obtain ⟨AH, rfl⟩ : ∃ x, x = A4 := ⟨_, rfl⟩
 obtain ⟨BH, rfl⟩ : ∃ x, x = B4 := ⟨_, rfl⟩
 obtain ⟨cH, rfl⟩ : ∃ x, x = c14 := ⟨_, rfl⟩
 obtain ⟨dH, rfl⟩ : ∃ x, x = c24 := ⟨_, rfl⟩
 obtain ⟨rsH, rfl⟩ : ∃ x, x = rs4 := ⟨_, rfl⟩
 have OX := O4.lt
 obtain ⟨bR, postR, rfl, hpR, _⟩ := OX.roots (ints_ne.2 (fun e => by rw [e] at hr4; simp at hr4))
 try dsimp only at hpR
 refine S_alloc (cs := [_, _]) zr32 rfl ?_
 intro b5 w5 fb5 g5 B5
 have lb5 := B5.lt
 replace hAl := hAl.grow g5
 replace hBl := hBl.grow g5
 replace OX := OX.grow g5
 replace G := G.grow g5
 replace B1 := B1.grow g5
 replace B2 := B2.grow g5
 replace B3 := B3.grow g5
 have zg5 := g5.size
 refine S_stM (pre := []) (old := [_, _]) (post := []) (vs := [_, _]) sz32 rfl rfl rfl (by first | rfl | assumption) B5 rfl rfl ?_
 intro w6 m6 X6
 replace B5 := Blk.eq (ys := [_, _]) X6 rfl
 clear X6
 replace G := G.abv m6
 replace hAl := hAl0.grow G
 replace hBl := hBl0.grow G
 replace OX := OX.md m6
 replace B1 := B1.md m6
 replace B2 := B2.md m6
 replace B3 := B3.md m6
 have zm6 := m6.size
 refine S_nl rfl rfl ?_
 refine th_n (hK2 _ _ ?_)
 clear hK2 K2
 refine wp_seq_k fun K3 hK3 => ?_
 refine wp_seq_k fun K4 hK4 => ?_
 refine Sb 131 rfl ?_  -- 2
 refine S_val (Y_field Try.underlying133 rfl fz133_0 (by decide) rfl) ?_
 refine S_val (Y_load Try.underlying3 rfl rfl (B2.at (by rfl))) ?_  -- l2
 refine S_nl rfl rfl ?_
 refine th_n (hK4 _ _ ?_)
 clear hK4 K4
 refine wp_block ?_
 refine wp_seq_k fun K5 hK5 => ?_
 refine Sb 131 rfl ?_  -- 3
 refine S_val (Y_eql rfl rfl) ?_
 refine S_val (Y_assign rfl) ?_
 refine S_nl rfl rfl ?_
 refine th_n (hK5 _ _ ?_)
 clear hK5 K5
 refine S_if rfl (fun hb1 => ?_) (fun hb1 => ?_)  -- c1
 · -- c1T
  replace hb1 := nb_tt hb1
  have hcu := hcv
  unfold cvP at hcu
  dsimp only at hcu
  have hpl2 := hpl hb1
  have hpb3 : pb ≤ 3 := by omega
  have hpc9 : pc ≤ 99 := by omega
  refine wp_seq_k fun K6 hK6 => ?_
  refine Sb 131 rfl ?_  -- 4
  refine S_val (Y_field Try.underlying133 rfl fz133_3 (by decide) rfl) ?_
  refine S_val (Y_load Try.underlying3 rfl rfl (B2.at (by rfl))) ?_  -- l3
  refine S_val (Y_build (cs := [_, _, _]) zr63 pc63 rfl rfl) ?_
  refine S_alloc (cs := [_, _, _]) zr63 rfl ?_
  intro b7 w7 fb7 g7 B7
  have lb7 := B7.lt
  replace hAl := hAl.grow g7
  replace hBl := hBl.grow g7
  replace OX := OX.grow g7
  replace G := G.grow g7
  replace B1 := B1.grow g7
  replace B2 := B2.grow g7
  replace B3 := B3.grow g7
  replace B5 := B5.grow g7
  have zg7 := g7.size
  refine S_stM (pre := []) (old := [_, _, _]) (post := []) (vs := [_, _, _]) sz63 rfl rfl rfl (by first | rfl | assumption) B7 rfl rfl ?_
  intro w8 m8 X8
  replace B7 := Blk.eq (ys := [_, _, _]) X8 rfl
  clear X8
  replace G := G.abv m8
  replace hAl := hAl0.grow G
  replace hBl := hBl0.grow G
  replace OX := OX.md m8
  replace B1 := B1.md m8
  replace B2 := B2.md m8
  replace B3 := B3.md m8
  replace B5 := B5.md m8
  have zm8 := m8.size
  refine S_nl rfl rfl ?_
  refine th_n (hK6 _ _ ?_)
  clear hK6 K6
  refine wp_seq_k fun K7 hK7 => ?_
  refine wp_seq_k fun K8 hK8 => ?_
  refine Sb 131 rfl ?_  -- 5
  refine S_val (Y_assign rfl) ?_
  refine S_nl rfl rfl ?_
  refine th_n (hK8 _ _ ?_)
  clear hK8 K8
  refine wp_block ?_
  obtain ⟨wz, hwz⟩ : ∃ x, x = w8.heap.size := ⟨_, rfl⟩
  have O6 : OW (fun i => wz ≤ i) w8 3 1 none 0 0 (ints (List.replicate 0 (-1))) := OW.nil _ _ _ _
  go_loopw [9] (fun u9 wr => (∃ (k q cap : Nat) (A1 : Option Addr), u9 = .int .i64 k ∧ k ≤ pb ∧ q = k ∧ Blk wr b7 63 [.bool true, .int .i64 (pc : Int), .slice A1 q cap].toArray ∧ OW (fun i => wz ≤ i) wr 3 1 A1 q cap (ints (List.replicate k (-1)))) ∧ Mod (fun i => i = b7 ∨ wz ≤ i) w8 wr) (fun u9 wr => pb - (intOf u9).toNat)  -- L1
  case atStart =>
   refine ⟨?_, Mod.refl _ _⟩
   exact ⟨0, 0, 0, none, rfl, by omega, rfl, B7, O6⟩
  case round =>
   obtain ⟨w9, rfl⟩ : ∃ x : World, x = wr := ⟨_, rfl⟩
   obtain ⟨hrel, g9⟩ := hrel
   clear B7
   clear O6
   replace G := G.abv g9
   replace hAl := hAl0.grow G
   replace hBl := hBl0.grow G
   replace OX := OX.md g9
   replace B1 := B1.md g9
   replace B2 := B2.md g9
   replace B3 := B3.md g9
   replace B5 := B5.md g9
   have zg9 := g9.size
   obtain ⟨k, q1, cap1, A1, rfl, hk, hq1, B7, O6⟩ := hrel
   have GL9 := g9
   refine wp_seq_k fun K9 hK9 => ?_
   refine wp_seq_k fun K10 hK10 => ?_
   refine Sb 131 rfl ?_  -- 6
   refine S_val (Y_move rfl) ?_
   refine S_val (Y_field Try.underlying133 rfl fz133_2 (by decide) rfl) ?_
   refine S_val (Y_load Try.underlying3 rfl rfl (B2.at (by rfl))) ?_  -- l4
   refine S_val (Y_lss rfl rfl) ?_
   refine S_nl rfl rfl ?_
   refine th_n (hK10 _ _ ?_)
   clear hK10 K10
   refine S_if rfl (fun hb2 => ?_) (fun hb2 => ?_)  -- c2
   · -- c2T
    replace hb2 := nb_tt hb2
    refine wp_skip ?_
    refine th_n (hK9 _ _ ?_)
    clear hK9 K9
    refine wp_seq_k fun K11 hK11 => ?_
    refine wp_block ?_
    refine Sb 131 rfl ?_  -- 8
    refine S_val (Y_field Try.underlying63 rfl fz63_2 (by decide) rfl) ?_
    refine S_val (Y_load Try.underlying23 rfl rfl (B7.at (by rfl))) ?_  -- l5
    refine S_bs1 (cs := [_]) Try.underlying23 zr3 sz3 rfl rfl rfl ?_
    intro b10 w10 fb10 g10 B10
    have lb10 := B10.lt
    replace hAl := hAl.grow g10
    replace hBl := hBl.grow g10
    replace OX := OX.grow g10
    replace O6 := O6.grow g10
    replace G := G.grow g10
    replace GL9 := GL9.grow g10
    replace B1 := B1.grow g10
    replace B2 := B2.grow g10
    replace B3 := B3.grow g10
    replace B5 := B5.grow g10
    replace B7 := B7.grow g10
    have zg10 := g10.size
    refine S_app Try.underlying23 zr3 sz3 by3 rfl rfl O6 rfl (Src.blk B10) (by simp [Value.oneCell']) (by omega) (Pr' := fun i => wz ≤ i) (fun i hi => hi) (by omega) ?_
    intro A11 cap11 w11 X11 m11
    replace O6 := X11
    rw [ints_app, rep_snoc] at O6
    clear X11
    replace G := G.abv m11
    replace GL9 := GL9.trn m11
    replace hAl := hAl0.grow G
    replace hBl := hBl0.grow G
    replace OX := OX.md m11
    replace B1 := B1.md m11
    replace B2 := B2.md m11
    replace B3 := B3.md m11
    replace B5 := B5.md m11
    replace B7 := B7.md m11
    have zm11 := m11.size
    refine S_val (Y_field Try.underlying63 rfl fz63_2 (by decide) rfl) ?_
    refine S_stM (pre := [_, _]) (old := [_]) (post := []) (vs := [_]) sz23 rfl rfl rfl (by first | rfl | assumption) B7 rfl rfl ?_
    intro w12 m12 X12
    replace B7 := Blk.eq (ys := [_, _, _]) X12 rfl
    clear X12
    replace G := G.abv m12
    replace GL9 := GL9.trn m12
    replace hAl := hAl0.grow G
    replace hBl := hBl0.grow G
    replace OX := OX.md m12
    replace O6 := O6.md m12
    replace B1 := B1.md m12
    replace B2 := B2.md m12
    replace B3 := B3.md m12
    replace B5 := B5.md m12
    have zm12 := m12.size
    refine S_nl rfl rfl ?_
    refine ib_n ?_
    refine th_n (hK11 _ _ ?_)
    clear hK11 K11
    refine Sb 131 rfl ?_  -- 7
    refine S_val (Y_move rfl) ?_
    refine S_val (Y_inc rfl rfl (by omega)) ?_
    refine S_val (Y_assign rfl) ?_
    refine S_nl rfl rfl ?_
    refine th_n ?_
    go_roundw  -- e1 of L1
    case rel =>
     refine ⟨?_, GL9⟩
     exact ⟨k + 1, _, _, _, rfl, by omega, by omega, B7, O6⟩
    case measure =>
     exact dec_nat (by omega)
   · -- c2F
    replace hb2 := nb_tf hb2
    have hkb : k = pb := by omega
    subst hkb
    obtain rfl : q1 = (List.replicate k (-1 : Int)).length := by rw [List.length_replicate]; exact hq1
    replace O6 := O6.lt
    refine wp_exit ?_
    refine th_x ?_
    try clear GL9
    refine th_x ?_
    refine ib_e ?_
    refine th_n (hK7 _ _ ?_)
    clear hK9 K9 hK7 K7
    refine wp_seq_k fun K12 hK12 => ?_
    refine wp_seq_k fun K13 hK13 => ?_
    refine Sb 131 rfl ?_  -- 9
    refine S_val (Y_move rfl) ?_
    refine S_val (Y_field Try.underlying32 rfl fz32_0 (by decide) rfl) ?_
    refine S_val (Y_load Try.underlying30 rfl rfl (B5.at (by rfl))) ?_  -- l6
    refine S_val (Y_len Try.underlying30 rfl) ?_
    refine S_val (Y_eql rfl rfl) ?_
    refine S_nl rfl rfl ?_
    refine th_n (hK13 _ _ ?_)
    clear hK13 K13
    refine S_if rfl (fun hb3 => ?_) (fun hb3 => ?_)  -- c3
    · -- c3T
     replace hb3 := nb_tt hb3
     have hpe : pl = h.cells.length := by omega
     subst hpe
     refine Sb 131 rfl ?_  -- 10
     refine S_val (Y_field Try.underlying32 rfl fz32_0 (by decide) rfl) ?_
     refine S_val (Y_load Try.underlying30 rfl rfl (B5.at (by rfl))) ?_  -- l7
     refine S_val (Y_loadS Try.underlying63 rfl sz63 rfl (B7.row (by rfl))) ?_  -- l8
     refine S_bs1 (cs := [_, _, _]) Try.underlying30 zr63 sz63 rfl rfl rfl ?_
     intro b13 w13 fb13 g13 B13
     have lb13 := B13.lt
     replace hAl := hAl.grow g13
     replace hBl := hBl.grow g13
     replace OX := OX.grow g13
     replace O6 := O6.grow g13
     replace G := G.grow g13
     replace B1 := B1.grow g13
     replace B2 := B2.grow g13
     replace B3 := B3.grow g13
     replace B5 := B5.grow g13
     replace B7 := B7.grow g13
     have zg13 := g13.size
     refine S_app2 Try.underlying30 zr63 sz63 by63 rfl rfl OX.row rfl (Src.blk B13) (by simp [Value.oneCell']) (by omega) (Pr' := fun i => b3 < i ∧ i ≠ b5) (fun i hi => by first | omega | (dsimp only at hi; omega)) (by omega) ?_
     intro A14 cap14 w14 X14 m14 n14
     have OY := OX.add hne (z := ⟨true, (pc : Int), List.replicate k (-1)⟩) O6.oi (fun i hi => by first | omega | (dsimp only at hi ⊢; omega)) n14 X14 (fun i hi => by first | omega | (dsimp only at hi ⊢; omega)) (fun i hi => by first | omega | (dsimp only at hi ⊢; omega))
     replace G := G.abv m14
     replace hAl := hAl0.grow G
     replace hBl := hBl0.grow G
     replace O6 := O6.md m14
     replace B1 := B1.md m14
     replace B2 := B2.md m14
     replace B3 := B3.md m14
     replace B5 := B5.md m14
     replace B7 := B7.md m14
     have zm14 := m14.size
     refine S_val (Y_field Try.underlying32 rfl fz32_0 (by decide) rfl) ?_
     refine S_stM (pre := []) (old := [_]) (post := [_]) (vs := [_]) sz30 rfl rfl rfl (by first | rfl | assumption) B5 rfl rfl ?_
     intro w15 m15 X15
     replace B5 := Blk.eq (ys := [_, _]) X15 rfl
     clear X15
     replace G := G.abv m15
     replace hAl := hAl0.grow G
     replace hBl := hBl0.grow G
     replace O6 := O6.md m15
     replace OY := OY.md m15
     replace B1 := B1.md m15
     replace B2 := B2.md m15
     replace B3 := B3.md m15
     replace B7 := B7.md m15
     have zm15 := m15.size
     refine S_nl rfl rfl ?_
     refine th_n (hK12 _ _ ?_)
     clear hK12 K12
     refine Sb 131 rfl ?_  -- 12
     refine S_val (Y_field Try.underlying32 rfl fz32_1 (by decide) rfl) ?_
     refine S_val (Y_load Try.underlying23 rfl rfl (B5.at (by rfl))) ?_  -- l9
     refine S_val (Y_field Try.underlying133 rfl fz133_1 (by decide) rfl) ?_
     refine S_val (Y_load Try.underlying3 rfl rfl (B2.at (by rfl))) ?_  -- l10
     refine S_val (Y_move rfl) ?_
     refine S_val (Y_index Try.underlying23 sz3 rfl rfl (by first | assumption | omega)) ?_
     refine S_of (Ys_root sz3 OY hne (k := pa) (by show pa < h.roots.length; omega) rfl rfl) ?_
     rintro w16 ⟨m16, hp16, OXF⟩
     replace G := G.abv m16
     replace hAl := hAl0.grow G
     replace hBl := hBl0.grow G
     replace O6 := O6.md m16
     replace B1 := B1.md m16
     replace B2 := B2.md m16
     replace B3 := B3.md m16
     replace B5 := B5.md m16
     replace B7 := B7.md m16
     have zm16 := m16.size
     first | (have hvF := valid_newAt (k := pa) (n := k) (d := (pc : Int)) va hpe ⟨by omega, by omega⟩ (by omega)) | (have hvF := valid_new (k := pa) (n := k) (d := (pc : Int)) va hpl2.2 ⟨by omega, by omega⟩ (by omega))
     refine S_nl rfl rfl ?_
     refine ib_n ?_
     refine th_n (hK3 _ _ ?_)
     clear hK3 K3
     refine wp_seq_k fun K14 hK14 => ?_
     refine Sb 131 rfl ?_  -- 23
     refine S_val (Y_loadS Try.underlying32 rfl sz32 rfl (B5.row (by rfl))) ?_  -- l11
     refine S_stM (pre := []) (old := [_, _]) (post := []) (vs := [_, _]) sz32 rfl rfl rfl (by first | rfl | assumption) B3 rfl rfl ?_
     intro w17 m17 X17
     replace B3 := Blk.eq (ys := [_, _]) X17 rfl
     clear X17
     replace G := G.abv m17
     replace hAl := hAl0.grow G
     replace hBl := hBl0.grow G
     replace O6 := O6.md m17
     replace OXF := OXF.md m17
     replace B1 := B1.md m17
     replace B2 := B2.md m17
     replace B5 := B5.md m17
     replace B7 := B7.md m17
     have zm17 := m17.size
     refine S_nl rfl rfl ?_
     refine th_n (hK14 _ _ ?_)
     clear hK14 K14
     refine wp_ret ?_
     refine ret_rc (cs := [_, _]) Try.underlying32 rfl sz32 rfl rfl (B3.row (by rfl)) ?_  -- r1
     exact ⟨_, _, _, _, _, _, _, _, rfl, by simp, by simp, hvF, OXF.weak (fun i hi => by first | omega | (dsimp only at hi; omega)), G⟩
    · -- c3F
     replace hb3 := nb_tf hb3
     have hpe : pl < h.cells.length := by omega
     obtain ⟨gC, RC0, capC, rfl, hpC, _, _, _, _⟩ := OX.cellAt hne hpe
     try dsimp only at hpC
     refine Sb 131 rfl ?_  -- 11
     refine S_val (Y_field Try.underlying32 rfl fz32_0 (by decide) rfl) ?_
     refine S_val (Y_load Try.underlying30 rfl rfl (B5.at (by rfl))) ?_  -- l12
     refine S_val (Y_move rfl) ?_
     refine S_val (Y_loadS Try.underlying63 rfl sz63 rfl (B7.row (by rfl))) ?_  -- l13
     refine S_val (Y_index Try.underlying30 sz63 rfl rfl (by first | assumption | omega)) ?_
     refine S_of (Ys_cell (z := ⟨true, (pc : Int), List.replicate k (-1)⟩) sz63 OX hne hpe O6.oi (fun i hi => by first | omega | (dsimp only at hi ⊢; omega)) rfl rfl) ?_
     rintro w18 ⟨m18, hp18, OY⟩
     replace OY := OY.weak (Pr' := fun i => b3 < i ∧ i ≠ b5) (fun i hi => by rcases hi with hi | hi <;> first | omega | (dsimp only at hi ⊢; omega))
     replace G := G.abv m18
     replace hAl := hAl0.grow G
     replace hBl := hBl0.grow G
     replace O6 := O6.md m18
     replace B1 := B1.md m18
     replace B2 := B2.md m18
     replace B3 := B3.md m18
     replace B5 := B5.md m18
     replace B7 := B7.md m18
     have zm18 := m18.size
     refine S_nl rfl rfl ?_
     refine th_n (hK12 _ _ ?_)
     clear hK12 K12
     refine Sb 131 rfl ?_  -- 12
     refine S_val (Y_field Try.underlying32 rfl fz32_1 (by decide) rfl) ?_
     refine S_val (Y_load Try.underlying23 rfl rfl (B5.at (by rfl))) ?_  -- l14
     refine S_val (Y_field Try.underlying133 rfl fz133_1 (by decide) rfl) ?_
     refine S_val (Y_load Try.underlying3 rfl rfl (B2.at (by rfl))) ?_  -- l15
     refine S_val (Y_move rfl) ?_
     refine S_val (Y_index Try.underlying23 sz3 rfl rfl (by first | assumption | omega)) ?_
     refine S_of (Ys_root sz3 OY hne (k := pa) (by show pa < h.roots.length; omega) rfl rfl) ?_
     rintro w19 ⟨m19, hp19, OXF⟩
     replace G := G.abv m19
     replace hAl := hAl0.grow G
     replace hBl := hBl0.grow G
     replace O6 := O6.md m19
     replace B1 := B1.md m19
     replace B2 := B2.md m19
     replace B3 := B3.md m19
     replace B5 := B5.md m19
     replace B7 := B7.md m19
     have zm19 := m19.size
     first | (have hvF := valid_newAt (k := pa) (n := k) (d := (pc : Int)) va hpe ⟨by omega, by omega⟩ (by omega)) | (have hvF := valid_new (k := pa) (n := k) (d := (pc : Int)) va hpl2.2 ⟨by omega, by omega⟩ (by omega))
     refine S_nl rfl rfl ?_
     refine ib_n ?_
     refine th_n (hK3 _ _ ?_)
     clear hK3 K3
     refine wp_seq_k fun K15 hK15 => ?_
     refine Sb 131 rfl ?_  -- 23
     refine S_val (Y_loadS Try.underlying32 rfl sz32 rfl (B5.row (by rfl))) ?_  -- l16
     refine S_stM (pre := []) (old := [_, _]) (post := []) (vs := [_, _]) sz32 rfl rfl rfl (by first | rfl | assumption) B3 rfl rfl ?_
     intro w20 m20 X20
     replace B3 := Blk.eq (ys := [_, _]) X20 rfl
     clear X20
     replace G := G.abv m20
     replace hAl := hAl0.grow G
     replace hBl := hBl0.grow G
     replace O6 := O6.md m20
     replace OXF := OXF.md m20
     replace B1 := B1.md m20
     replace B2 := B2.md m20
     replace B5 := B5.md m20
     replace B7 := B7.md m20
     have zm20 := m20.size
     refine S_nl rfl rfl ?_
     refine th_n (hK15 _ _ ?_)
     clear hK15 K15
     refine wp_ret ?_
     refine ret_rc (cs := [_, _]) Try.underlying32 rfl sz32 rfl rfl (B3.row (by rfl)) ?_  -- r2
     exact ⟨_, _, _, _, _, _, _, _, rfl, by simp, by simp, hvF, OXF.weak (fun i hi => by first | omega | (dsimp only at hi; omega)), G⟩
 · -- c1F
  replace hb1 := nb_tf hb1
  refine wp_seq_k fun K16 hK16 => ?_
  refine Sb 131 rfl ?_  -- 13
  refine S_val (Y_eql rfl rfl) ?_
  refine S_val (Y_assign rfl) ?_
  refine S_nl rfl rfl ?_
  refine th_n (hK16 _ _ ?_)
  clear hK16 K16
  refine S_if rfl (fun hb2 => ?_) (fun hb2 => ?_)  -- c4
  · -- c4T
   replace hb2 := nb_tt hb2
   have hcu := hcv
   unfold cvP at hcu
   dsimp only at hcu
   have hpb4 : pb < h.roots.length := by omega
   have hpe : placeB h ((pb : Nat) : Int) (pc : Int) = true := by rw [hb2] at hef; simpa [effectB] using hef
   rw [placeB_at hpb4, Bool.and_eq_true, decide_eq_true_eq, decide_eq_true_eq] at hpe
   obtain ⟨m, hm, hmN⟩ := valid_root va hpb4 hpe.1
   have hj : pc < h.cells[m].refs.length := by have h9 := hpe.2; rw [hm, Int.toNat_natCast, refsOf_at hmN] at h9; omega
   have hmu := root_used va hpb4 hm hmN
   have hvF := valid_setRoot va (k := pa) (va.refs hmN _ (List.getElem_mem hj))
   refine D_start 21 131 (fun w => Mod (fun i => i = bR) w) follows rfl rfl ?_  -- d1 r14
   intro w21 g21
   replace hAl := hAl.grow g21
   replace hBl := hBl.grow g21
   replace OX := OX.grow g21
   replace G := G.grow g21
   replace B1 := B1.grow g21
   replace B2 := B2.grow g21
   replace B3 := B3.grow g21
   replace B5 := B5.grow g21
   have zg21 := g21.size
   have GS21 := Mod.refl (fun i => i = bR) w21
   obtain ⟨gB, oB, eB, hpB, hcB⟩ := hBl.int (k := pb) (by omega)
   cases eB
   rw [hm] at hcB
   obtain ⟨g2, o2, E2, d2, eA, hp2, cc2, hE2⟩ := hAl.cell hmN
   cases eA
   obtain ⟨g5, o5, e5, hp5, hc5⟩ := hE2.int hj
   cases e5
   refine Dq (i := 0) rfl GS21 (fun _ _ => Y_field Try.underlying32 rfl fz32_1 (by decide) rfl) ?_
   refine Dq (i := 1) rfl GS21 (fun _ hs => Y_load Try.underlying23 rfl rfl (by first | exact hs.cell (B5.at (by rfl)) (by intro h; first | omega | (dsimp only at h; omega)))) ?_
   refine Dq (i := 2) rfl GS21 (fun _ _ => Y_field Try.underlying133 rfl fz133_1 (by decide) rfl) ?_
   refine Dq (i := 3) rfl GS21 (fun _ hs => Y_load Try.underlying3 rfl rfl (by first | exact hs.cell (B2.at (by rfl)) (by intro h; first | omega | (dsimp only at h; omega)))) ?_
   refine Dq (i := 4) rfl GS21 (fun _ _ => Y_field Try.underlying32 rfl fz32_0 (by decide) rfl) ?_
   refine Dq (i := 5) rfl GS21 (fun _ hs => Y_load Try.underlying30 rfl rfl (by first | exact hs.cell (B1.at (by rfl)) (by intro h; first | omega | (dsimp only at h; omega)))) ?_
   refine Dq (i := 6) rfl GS21 (fun _ _ => Y_field Try.underlying32 rfl fz32_1 (by decide) rfl) ?_
   refine Dq (i := 7) rfl GS21 (fun _ hs => Y_load Try.underlying23 rfl rfl (by first | exact hs.cell (B1.at (by rfl)) (by intro h; first | omega | (dsimp only at h; omega)))) ?_
   refine Dq (i := 8) rfl GS21 (fun _ _ => Y_field Try.underlying133 rfl fz133_2 (by decide) rfl) ?_
   refine Dq (i := 9) rfl GS21 (fun _ hs => Y_load Try.underlying3 rfl rfl (by first | exact hs.cell (B2.at (by rfl)) (by intro h; first | omega | (dsimp only at h; omega)))) ?_
   refine Dq (i := 10) rfl GS21 (fun _ _ => Y_index Try.underlying23 sz3 rfl rfl (by first | assumption | omega)) ?_
   refine Dq (i := 11) rfl GS21 (fun _ hs => Y_load Try.underlying3 rfl rfl (by first | exact hs.cell (by assumption) (by intro h; first | omega | (dsimp only at h; omega)) | exact hs.cell (cc2.at (by rfl)) (by intro h; first | omega | (dsimp only at h; omega)) | exact hs.cell (B1.at (by rfl)) (by intro h; first | omega | (dsimp only at h; omega)) | exact hs.cell (B2.at (by rfl)) (by intro h; first | omega | (dsimp only at h; omega)) | exact hs.cell (B3.at (by rfl)) (by intro h; first | omega | (dsimp only at h; omega)) | exact hs.cell (B5.at (by rfl)) (by intro h; first | omega | (dsimp only at h; omega)))) ?_
   refine Dq (i := 12) rfl GS21 (fun _ _ => Y_index Try.underlying30 sz63 rfl rfl (by first | assumption | omega)) ?_
   refine Dq (i := 13) rfl GS21 (fun _ _ => Y_field Try.underlying63 rfl fz63_2 (by decide) rfl) ?_
   refine Dq (i := 14) rfl GS21 (fun _ hs => Y_load Try.underlying23 rfl rfl (by first | exact hs.cell (by assumption) (by intro h; first | omega | (dsimp only at h; omega)) | exact hs.cell (cc2.at (by rfl)) (by intro h; first | omega | (dsimp only at h; omega)) | exact hs.cell (B1.at (by rfl)) (by intro h; first | omega | (dsimp only at h; omega)) | exact hs.cell (B2.at (by rfl)) (by intro h; first | omega | (dsimp only at h; omega)) | exact hs.cell (B3.at (by rfl)) (by intro h; first | omega | (dsimp only at h; omega)) | exact hs.cell (B5.at (by rfl)) (by intro h; first | omega | (dsimp only at h; omega)))) ?_
   refine Dq (i := 15) rfl GS21 (fun _ _ => Y_field Try.underlying133 rfl fz133_3 (by decide) rfl) ?_
   refine Dq (i := 16) rfl GS21 (fun _ hs => Y_load Try.underlying3 rfl rfl (by first | exact hs.cell (B2.at (by rfl)) (by intro h; first | omega | (dsimp only at h; omega)))) ?_
   refine Dq (i := 17) rfl GS21 (fun _ _ => Y_index Try.underlying23 sz3 rfl rfl (by first | assumption | omega)) ?_
   refine Dq (i := 18) rfl GS21 (fun _ hs => Y_load Try.underlying3 rfl rfl (by first | exact hs.cell (by assumption) (by intro h; first | omega | (dsimp only at h; omega)) | exact hs.cell (cc2.at (by rfl)) (by intro h; first | omega | (dsimp only at h; omega)) | exact hs.cell (B1.at (by rfl)) (by intro h; first | omega | (dsimp only at h; omega)) | exact hs.cell (B2.at (by rfl)) (by intro h; first | omega | (dsimp only at h; omega)) | exact hs.cell (B3.at (by rfl)) (by intro h; first | omega | (dsimp only at h; omega)) | exact hs.cell (B5.at (by rfl)) (by intro h; first | omega | (dsimp only at h; omega)))) ?_
   refine Dq (i := 19) rfl GS21 (fun _ _ => Y_index Try.underlying23 sz3 rfl rfl (by first | assumption | omega)) ?_
   refine D_1 (i := 20) (by kernel_rfl) ?_
   refine E_of (i := 20) rfl (Ys_root sz3 OX hne (k := pa) (by omega) rfl rfl) ?_
   rintro w22 ⟨m22, hp22, OXF⟩
   try dsimp only at hp22
   replace G := G.abv m22
   replace GS21 := GS21.trn m22
   replace hAl := hAl0.grow G
   replace hBl := hBl0.grow G
   replace B1 := B1.md m22
   replace B2 := B2.md m22
   replace B3 := B3.md m22
   replace B5 := B5.md m22
   clear cc2
   have zm22 := m22.size
   refine ⟨GS21, ?_⟩
   refine D_en (by kernel_rfl) rfl rfl ?_
   refine ib_n ?_
   refine th_n (hK3 _ _ ?_)
   clear hK3 K3
   refine wp_seq_k fun K17 hK17 => ?_
   refine Sb 131 rfl ?_  -- 23
   refine S_val (Y_loadS Try.underlying32 rfl sz32 rfl (B5.row (by rfl))) ?_  -- l26
   refine S_stM (pre := []) (old := [_, _]) (post := []) (vs := [_, _]) sz32 rfl rfl rfl (by first | rfl | assumption) B3 rfl rfl ?_
   intro w23 m23 X23
   replace B3 := Blk.eq (ys := [_, _]) X23 rfl
   clear X23
   replace G := G.abv m23
   replace hAl := hAl0.grow G
   replace hBl := hBl0.grow G
   replace OXF := OXF.md m23
   replace B1 := B1.md m23
   replace B2 := B2.md m23
   replace B5 := B5.md m23
   have zm23 := m23.size
   refine S_nl rfl rfl ?_
   refine th_n (hK17 _ _ ?_)
   clear hK17 K17
   refine wp_ret ?_
   refine ret_rc (cs := [_, _]) Try.underlying32 rfl sz32 rfl rfl (B3.row (by rfl)) ?_  -- r3
   exact ⟨_, _, _, _, _, _, _, _, rfl, by simp, by simp, hvF, OXF.weak (fun i hi => by first | omega | (dsimp only at hi; omega)), G⟩
  · -- c4F
   replace hb2 := nb_tf hb2
   refine wp_seq_k fun K18 hK18 => ?_
   refine Sb 131 rfl ?_  -- 15
   refine S_val (Y_eql rfl rfl) ?_
   refine S_val (Y_assign rfl) ?_
   refine S_nl rfl rfl ?_
   refine th_n (hK18 _ _ ?_)
   clear hK18 K18
   refine S_if rfl (fun hb3 => ?_) (fun hb3 => ?_)  -- c5
   · -- c5T
    replace hb3 := nb_tt hb3
    have hcu := hcv
    unfold cvP at hcu
    dsimp only at hcu
    have hpb4 : pb < h.roots.length := by omega
    have hpe : placeB h ((pa : Nat) : Int) (pc : Int) = true := by rw [hb3] at hef; simpa [effectB] using hef
    rw [placeB_at hpa, Bool.and_eq_true, decide_eq_true_eq, decide_eq_true_eq] at hpe
    obtain ⟨m, hm, hmN⟩ := valid_root va hpa hpe.1
    have hj : pc < h.cells[m].refs.length := by have h9 := hpe.2; rw [hm, Int.toNat_natCast, refsOf_at hmN] at h9; omega
    have hmu := root_used va hpa hm hmN
    have hvF := valid_setRef va hmN hmu (j := pc) (va.roots _ (List.getElem_mem hpb4))
    obtain ⟨gC, RX, capX, rfl, hpC, hrs, ccx, hRX, hRb⟩ := OX.cellAt hne hmN
    try dsimp only at hpC
    obtain ⟨bX, rfl, hpX, hXC⟩ := hRb (by omega)
    try dsimp only at hpX
    refine D_start 21 131 (fun w => Mod (fun i => i = bX) w) follows rfl rfl ?_  -- d2 r16
    intro w24 g24
    replace hAl := hAl.grow g24
    replace hBl := hBl.grow g24
    replace OX := OX.grow g24
    replace G := G.grow g24
    replace B1 := B1.grow g24
    replace B2 := B2.grow g24
    replace B3 := B3.grow g24
    replace B5 := B5.grow g24
    replace ccx := ccx.grow g24
    have zg24 := g24.size
    have GS24 := Mod.refl (fun i => i = bX) w24
    obtain ⟨gB, oB, eB, hpB, hcB⟩ := hBl.int hpa
    cases eB
    rw [hm] at hcB
    obtain ⟨gD, oD, eD, hpD, hcD⟩ := hBl.int hpb4
    cases eD
    refine Dq (i := 0) rfl GS24 (fun _ _ => Y_field Try.underlying32 rfl fz32_0 (by decide) rfl) ?_
    refine Dq (i := 1) rfl GS24 (fun _ hs => Y_load Try.underlying30 rfl rfl (by first | exact hs.cell (B5.at (by rfl)) (by intro h; first | omega | (dsimp only at h; omega)))) ?_
    refine Dq (i := 2) rfl GS24 (fun _ _ => Y_field Try.underlying32 rfl fz32_1 (by decide) rfl) ?_
    refine Dq (i := 3) rfl GS24 (fun _ hs => Y_load Try.underlying23 rfl rfl (by first | exact hs.cell (B1.at (by rfl)) (by intro h; first | omega | (dsimp only at h; omega)))) ?_
    refine Dq (i := 4) rfl GS24 (fun _ _ => Y_field Try.underlying133 rfl fz133_1 (by decide) rfl) ?_
    refine Dq (i := 5) rfl GS24 (fun _ hs => Y_load Try.underlying3 rfl rfl (by first | exact hs.cell (B2.at (by rfl)) (by intro h; first | omega | (dsimp only at h; omega)))) ?_
    refine Dq (i := 6) rfl GS24 (fun _ _ => Y_index Try.underlying23 sz3 rfl rfl (by first | assumption | omega)) ?_
    refine Dq (i := 7) rfl GS24 (fun _ hs => Y_load Try.underlying3 rfl rfl (by first | exact hs.cell (by assumption) (by intro h; first | omega | (dsimp only at h; omega)) | exact hs.cell (ccx.at (by rfl)) (by intro h; first | omega | (dsimp only at h; omega)) | exact hs.cell (B1.at (by rfl)) (by intro h; first | omega | (dsimp only at h; omega)) | exact hs.cell (B2.at (by rfl)) (by intro h; first | omega | (dsimp only at h; omega)) | exact hs.cell (B3.at (by rfl)) (by intro h; first | omega | (dsimp only at h; omega)) | exact hs.cell (B5.at (by rfl)) (by intro h; first | omega | (dsimp only at h; omega)))) ?_
    refine Dq (i := 8) rfl GS24 (fun _ _ => Y_index Try.underlying30 sz63 rfl rfl (by first | assumption | omega)) ?_
    refine Dq (i := 9) rfl GS24 (fun _ _ => Y_field Try.underlying63 rfl fz63_2 (by decide) rfl) ?_
    refine Dq (i := 10) rfl GS24 (fun _ hs => Y_load Try.underlying23 rfl rfl (by first | exact hs.cell (by assumption) (by intro h; first | omega | (dsimp only at h; omega)) | exact hs.cell (ccx.at (by rfl)) (by intro h; first | omega | (dsimp only at h; omega)) | exact hs.cell (B1.at (by rfl)) (by intro h; first | omega | (dsimp only at h; omega)) | exact hs.cell (B2.at (by rfl)) (by intro h; first | omega | (dsimp only at h; omega)) | exact hs.cell (B3.at (by rfl)) (by intro h; first | omega | (dsimp only at h; omega)) | exact hs.cell (B5.at (by rfl)) (by intro h; first | omega | (dsimp only at h; omega)))) ?_
    refine Dq (i := 11) rfl GS24 (fun _ _ => Y_field Try.underlying133 rfl fz133_3 (by decide) rfl) ?_
    refine Dq (i := 12) rfl GS24 (fun _ hs => Y_load Try.underlying3 rfl rfl (by first | exact hs.cell (B2.at (by rfl)) (by intro h; first | omega | (dsimp only at h; omega)))) ?_
    refine Dq (i := 13) rfl GS24 (fun _ _ => Y_field Try.underlying32 rfl fz32_1 (by decide) rfl) ?_
    refine Dq (i := 14) rfl GS24 (fun _ hs => Y_load Try.underlying23 rfl rfl (by first | exact hs.cell (B1.at (by rfl)) (by intro h; first | omega | (dsimp only at h; omega)))) ?_
    refine Dq (i := 15) rfl GS24 (fun _ _ => Y_field Try.underlying133 rfl fz133_2 (by decide) rfl) ?_
    refine Dq (i := 16) rfl GS24 (fun _ hs => Y_load Try.underlying3 rfl rfl (by first | exact hs.cell (B2.at (by rfl)) (by intro h; first | omega | (dsimp only at h; omega)))) ?_
    refine Dq (i := 17) rfl GS24 (fun _ _ => Y_index Try.underlying23 sz3 rfl rfl (by first | assumption | omega)) ?_
    refine Dq (i := 18) rfl GS24 (fun _ hs => Y_load Try.underlying3 rfl rfl (by first | exact hs.cell (by assumption) (by intro h; first | omega | (dsimp only at h; omega)) | exact hs.cell (ccx.at (by rfl)) (by intro h; first | omega | (dsimp only at h; omega)) | exact hs.cell (B1.at (by rfl)) (by intro h; first | omega | (dsimp only at h; omega)) | exact hs.cell (B2.at (by rfl)) (by intro h; first | omega | (dsimp only at h; omega)) | exact hs.cell (B3.at (by rfl)) (by intro h; first | omega | (dsimp only at h; omega)) | exact hs.cell (B5.at (by rfl)) (by intro h; first | omega | (dsimp only at h; omega)))) ?_
    refine Dq (i := 19) rfl GS24 (fun _ _ => Y_index Try.underlying23 sz3 rfl rfl (by first | assumption | omega)) ?_
    refine D_1 (i := 20) (by kernel_rfl) ?_
    refine E_of (i := 20) rfl (Ys_ref sz3 OX hne hmN hrs hj rfl rfl) ?_
    rintro w25 ⟨m25, hp25, OXF⟩
    try dsimp only at hp25
    replace G := G.abv m25
    replace GS24 := GS24.trn m25
    replace hAl := hAl0.grow G
    replace hBl := hBl0.grow G
    replace B1 := B1.md m25
    replace B2 := B2.md m25
    replace B3 := B3.md m25
    replace B5 := B5.md m25
    clear ccx
    have zm25 := m25.size
    refine ⟨GS24, ?_⟩
    refine D_en (by kernel_rfl) rfl rfl ?_
    refine ib_n ?_
    refine th_n (hK3 _ _ ?_)
    clear hK3 K3
    refine wp_seq_k fun K19 hK19 => ?_
    refine Sb 131 rfl ?_  -- 23
    refine S_val (Y_loadS Try.underlying32 rfl sz32 rfl (B5.row (by rfl))) ?_  -- l36
    refine S_stM (pre := []) (old := [_, _]) (post := []) (vs := [_, _]) sz32 rfl rfl rfl (by first | rfl | assumption) B3 rfl rfl ?_
    intro w26 m26 X26
    replace B3 := Blk.eq (ys := [_, _]) X26 rfl
    clear X26
    replace G := G.abv m26
    replace hAl := hAl0.grow G
    replace hBl := hBl0.grow G
    replace OXF := OXF.md m26
    replace B1 := B1.md m26
    replace B2 := B2.md m26
    replace B5 := B5.md m26
    have zm26 := m26.size
    refine S_nl rfl rfl ?_
    refine th_n (hK19 _ _ ?_)
    clear hK19 K19
    refine wp_ret ?_
    refine ret_rc (cs := [_, _]) Try.underlying32 rfl sz32 rfl rfl (B3.row (by rfl)) ?_  -- r4
    exact ⟨_, _, _, _, _, _, _, _, rfl, by simp, by simp, hvF, OXF.weak (fun i hi => by first | omega | (dsimp only at hi; omega)), G⟩
   · -- c5F
    replace hb3 := nb_tf hb3
    refine wp_seq_k fun K20 hK20 => ?_
    refine Sb 131 rfl ?_  -- 17
    refine S_val (Y_eql rfl rfl) ?_
    refine S_val (Y_assign rfl) ?_
    refine S_nl rfl rfl ?_
    refine th_n (hK20 _ _ ?_)
    clear hK20 K20
    refine S_if rfl (fun hb4 => ?_) (fun hb4 => ?_)  -- c6
    · -- c6T
     replace hb4 := nb_tt hb4
     have hcu := hcv
     unfold cvP at hcu
     dsimp only at hcu
     have hpb4 : pb < h.roots.length := by omega
     have hvF := valid_setRoot va (k := pa) (va.roots _ (List.getElem_mem hpb4))
     refine D_start 12 131 (fun w => Mod (fun i => i = bR) w) follows rfl rfl ?_  -- d3 r18
     intro w27 g27
     replace hAl := hAl.grow g27
     replace hBl := hBl.grow g27
     replace OX := OX.grow g27
     replace G := G.grow g27
     replace B1 := B1.grow g27
     replace B2 := B2.grow g27
     replace B3 := B3.grow g27
     replace B5 := B5.grow g27
     have zg27 := g27.size
     have GS27 := Mod.refl (fun i => i = bR) w27
     obtain ⟨gB, oB, eB, hpB, hcB⟩ := hBl.int (k := pb) (by omega)
     cases eB
     refine Dq (i := 0) rfl GS27 (fun _ _ => Y_field Try.underlying32 rfl fz32_1 (by decide) rfl) ?_
     refine Dq (i := 1) rfl GS27 (fun _ hs => Y_load Try.underlying23 rfl rfl (by first | exact hs.cell (B5.at (by rfl)) (by intro h; first | omega | (dsimp only at h; omega)))) ?_
     refine Dq (i := 2) rfl GS27 (fun _ _ => Y_field Try.underlying133 rfl fz133_1 (by decide) rfl) ?_
     refine Dq (i := 3) rfl GS27 (fun _ hs => Y_load Try.underlying3 rfl rfl (by first | exact hs.cell (B2.at (by rfl)) (by intro h; first | omega | (dsimp only at h; omega)))) ?_
     refine Dq (i := 4) rfl GS27 (fun _ _ => Y_field Try.underlying32 rfl fz32_1 (by decide) rfl) ?_
     refine Dq (i := 5) rfl GS27 (fun _ hs => Y_load Try.underlying23 rfl rfl (by first | exact hs.cell (B1.at (by rfl)) (by intro h; first | omega | (dsimp only at h; omega)))) ?_
     refine Dq (i := 6) rfl GS27 (fun _ _ => Y_field Try.underlying133 rfl fz133_2 (by decide) rfl) ?_
     refine Dq (i := 7) rfl GS27 (fun _ hs => Y_load Try.underlying3 rfl rfl (by first | exact hs.cell (B2.at (by rfl)) (by intro h; first | omega | (dsimp only at h; omega)))) ?_
     refine Dq (i := 8) rfl GS27 (fun _ _ => Y_index Try.underlying23 sz3 rfl rfl (by first | assumption | omega)) ?_
     refine Dq (i := 9) rfl GS27 (fun _ hs => Y_load Try.underlying3 rfl rfl (by first | exact hs.cell (by assumption) (by intro h; first | omega | (dsimp only at h; omega)) | exact hs.cell (B1.at (by rfl)) (by intro h; first | omega | (dsimp only at h; omega)) | exact hs.cell (B2.at (by rfl)) (by intro h; first | omega | (dsimp only at h; omega)) | exact hs.cell (B3.at (by rfl)) (by intro h; first | omega | (dsimp only at h; omega)) | exact hs.cell (B5.at (by rfl)) (by intro h; first | omega | (dsimp only at h; omega)))) ?_
     refine Dq (i := 10) rfl GS27 (fun _ _ => Y_index Try.underlying23 sz3 rfl rfl (by first | assumption | omega)) ?_
     refine D_1 (i := 11) (by kernel_rfl) ?_
     refine E_of (i := 11) rfl (Ys_root sz3 OX hne (k := pa) (by omega) rfl rfl) ?_
     rintro w28 ⟨m28, hp28, OXF⟩
     try dsimp only at hp28
     replace G := G.abv m28
     replace GS27 := GS27.trn m28
     replace hAl := hAl0.grow G
     replace hBl := hBl0.grow G
     replace B1 := B1.md m28
     replace B2 := B2.md m28
     replace B3 := B3.md m28
     replace B5 := B5.md m28
     have zm28 := m28.size
     refine ⟨GS27, ?_⟩
     refine D_en (by kernel_rfl) rfl rfl ?_
     refine ib_n ?_
     refine th_n (hK3 _ _ ?_)
     clear hK3 K3
     refine wp_seq_k fun K21 hK21 => ?_
     refine Sb 131 rfl ?_  -- 23
     refine S_val (Y_loadS Try.underlying32 rfl sz32 rfl (B5.row (by rfl))) ?_  -- l42
     refine S_stM (pre := []) (old := [_, _]) (post := []) (vs := [_, _]) sz32 rfl rfl rfl (by first | rfl | assumption) B3 rfl rfl ?_
     intro w29 m29 X29
     replace B3 := Blk.eq (ys := [_, _]) X29 rfl
     clear X29
     replace G := G.abv m29
     replace hAl := hAl0.grow G
     replace hBl := hBl0.grow G
     replace OXF := OXF.md m29
     replace B1 := B1.md m29
     replace B2 := B2.md m29
     replace B5 := B5.md m29
     have zm29 := m29.size
     refine S_nl rfl rfl ?_
     refine th_n (hK21 _ _ ?_)
     clear hK21 K21
     refine wp_ret ?_
     refine ret_rc (cs := [_, _]) Try.underlying32 rfl sz32 rfl rfl (B3.row (by rfl)) ?_  -- r5
     exact ⟨_, _, _, _, _, _, _, _, rfl, by simp, by simp, hvF, OXF.weak (fun i hi => by first | omega | (dsimp only at hi; omega)), G⟩
    · -- c6F
     replace hb4 := nb_tf hb4
     refine wp_seq_k fun K22 hK22 => ?_
     refine Sb 131 rfl ?_  -- 19
     refine S_val (Y_eql rfl rfl) ?_
     refine S_val (Y_assign rfl) ?_
     refine S_nl rfl rfl ?_
     refine th_n (hK22 _ _ ?_)
     clear hK22 K22
     refine S_if rfl (fun hb5 => ?_) (fun hb5 => ?_)  -- c7
     · -- c7T
      replace hb5 := nb_tt hb5
      have hvF := valid_setRoot va (k := pa) (leadsB_m1 h.cells)
      refine Sb 131 rfl ?_  -- 20
      refine S_val (Y_field Try.underlying32 rfl fz32_1 (by decide) rfl) ?_
      refine S_val (Y_load Try.underlying23 rfl rfl (B5.at (by rfl))) ?_  -- l43
      refine S_val (Y_field Try.underlying133 rfl fz133_1 (by decide) rfl) ?_
      refine S_val (Y_load Try.underlying3 rfl rfl (B2.at (by rfl))) ?_  -- l44
      refine S_val (Y_index Try.underlying23 sz3 rfl rfl (by first | assumption | omega)) ?_
      refine S_of (Ys_root sz3 OX hne (k := pa) (by omega) rfl rfl) ?_
      rintro w30 ⟨m30, hp30, OXF⟩
      try dsimp only at hp30
      replace G := G.abv m30
      replace hAl := hAl0.grow G
      replace hBl := hBl0.grow G
      replace B1 := B1.md m30
      replace B2 := B2.md m30
      replace B3 := B3.md m30
      replace B5 := B5.md m30
      have zm30 := m30.size
      refine S_nl rfl rfl ?_
      refine ib_n ?_
      refine th_n (hK3 _ _ ?_)
      clear hK3 K3
      refine wp_seq_k fun K23 hK23 => ?_
      refine Sb 131 rfl ?_  -- 23
      refine S_val (Y_loadS Try.underlying32 rfl sz32 rfl (B5.row (by rfl))) ?_  -- l45
      refine S_stM (pre := []) (old := [_, _]) (post := []) (vs := [_, _]) sz32 rfl rfl rfl (by first | rfl | assumption) B3 rfl rfl ?_
      intro w31 m31 X31
      replace B3 := Blk.eq (ys := [_, _]) X31 rfl
      clear X31
      replace G := G.abv m31
      replace hAl := hAl0.grow G
      replace hBl := hBl0.grow G
      replace OXF := OXF.md m31
      replace B1 := B1.md m31
      replace B2 := B2.md m31
      replace B5 := B5.md m31
      have zm31 := m31.size
      refine S_nl rfl rfl ?_
      refine th_n (hK23 _ _ ?_)
      clear hK23 K23
      refine wp_ret ?_
      refine ret_rc (cs := [_, _]) Try.underlying32 rfl sz32 rfl rfl (B3.row (by rfl)) ?_  -- r6
      exact ⟨_, _, _, _, _, _, _, _, rfl, by simp, by simp, hvF, OXF.weak (fun i hi => by first | omega | (dsimp only at hi; omega)), G⟩
     · -- c7F
      replace hb5 := nb_tf hb5
      refine wp_seq_k fun K24 hK24 => ?_
      refine Sb 131 rfl ?_  -- 21
      refine S_val (Y_eql rfl rfl) ?_
      refine S_val (Y_assign rfl) ?_
      refine S_nl rfl rfl ?_
      refine th_n (hK24 _ _ ?_)
      clear hK24 K24
      refine S_if rfl (fun hb6 => ?_) (fun hb6 => ?_)  -- c8
      · -- c8T
       replace hb6 := nb_tt hb6
       have hcu := hcv
       unfold cvP at hcu
       dsimp only at hcu
       have hpe : rootB h (pa : Int) = true := by rw [hb6] at hef; simpa [effectB] using hef
       rw [rootB_at hpa, decide_eq_true_eq] at hpe
       obtain ⟨m, hm, hmN⟩ := valid_root va hpa hpe
       have hmu := root_used va hpa hm hmN
       have hvF := valid_setData va hmN hmu (x := (pb : Int)) (by omega)
       obtain ⟨gC, RX, capX, rfl, hpC, _, _, _, _⟩ := OX.cellAt hne hmN
       try dsimp only at hpC
       refine D_start 13 131 (fun w => Mod (fun i => i = gC) w) follows rfl rfl ?_  -- d4 r22
       intro w32 g32
       replace hAl := hAl.grow g32
       replace hBl := hBl.grow g32
       replace OX := OX.grow g32
       replace G := G.grow g32
       replace B1 := B1.grow g32
       replace B2 := B2.grow g32
       replace B3 := B3.grow g32
       replace B5 := B5.grow g32
       have zg32 := g32.size
       have GS32 := Mod.refl (fun i => i = gC) w32
       obtain ⟨gB, oB, eB, hpB, hcB⟩ := hBl.int hpa
       cases eB
       rw [hm] at hcB
       refine Dq (i := 0) rfl GS32 (fun _ _ => Y_field Try.underlying32 rfl fz32_0 (by decide) rfl) ?_
       refine Dq (i := 1) rfl GS32 (fun _ hs => Y_load Try.underlying30 rfl rfl (by first | exact hs.cell (B5.at (by rfl)) (by intro h; first | omega | (dsimp only at h; omega)))) ?_
       refine Dq (i := 2) rfl GS32 (fun _ _ => Y_field Try.underlying32 rfl fz32_1 (by decide) rfl) ?_
       refine Dq (i := 3) rfl GS32 (fun _ hs => Y_load Try.underlying23 rfl rfl (by first | exact hs.cell (B1.at (by rfl)) (by intro h; first | omega | (dsimp only at h; omega)))) ?_
       refine Dq (i := 4) rfl GS32 (fun _ _ => Y_field Try.underlying133 rfl fz133_1 (by decide) rfl) ?_
       refine Dq (i := 5) rfl GS32 (fun _ hs => Y_load Try.underlying3 rfl rfl (by first | exact hs.cell (B2.at (by rfl)) (by intro h; first | omega | (dsimp only at h; omega)))) ?_
       refine Dq (i := 6) rfl GS32 (fun _ _ => Y_index Try.underlying23 sz3 rfl rfl (by first | assumption | omega)) ?_
       refine Dq (i := 7) rfl GS32 (fun _ hs => Y_load Try.underlying3 rfl rfl (by first | exact hs.cell (by assumption) (by intro h; first | omega | (dsimp only at h; omega)) | exact hs.cell (B1.at (by rfl)) (by intro h; first | omega | (dsimp only at h; omega)) | exact hs.cell (B2.at (by rfl)) (by intro h; first | omega | (dsimp only at h; omega)) | exact hs.cell (B3.at (by rfl)) (by intro h; first | omega | (dsimp only at h; omega)) | exact hs.cell (B5.at (by rfl)) (by intro h; first | omega | (dsimp only at h; omega)))) ?_
       refine Dq (i := 8) rfl GS32 (fun _ _ => Y_field Try.underlying133 rfl fz133_2 (by decide) rfl) ?_
       refine Dq (i := 9) rfl GS32 (fun _ hs => Y_load Try.underlying3 rfl rfl (by first | exact hs.cell (B2.at (by rfl)) (by intro h; first | omega | (dsimp only at h; omega)))) ?_
       refine Dq (i := 10) rfl GS32 (fun _ _ => Y_index Try.underlying30 sz63 rfl rfl (by first | assumption | omega)) ?_
       refine Dq (i := 11) rfl GS32 (fun _ _ => Y_field Try.underlying63 rfl fz63_1 (by decide) rfl) ?_
       refine D_1 (i := 12) (by kernel_rfl) ?_
       refine E_of (i := 12) rfl (Ys_data sz3 OX hne hmN rfl rfl) ?_
       rintro w33 ⟨m33, hp33, OXF⟩
       try dsimp only at hp33
       replace G := G.abv m33
       replace GS32 := GS32.trn m33
       replace hAl := hAl0.grow G
       replace hBl := hBl0.grow G
       replace B1 := B1.md m33
       replace B2 := B2.md m33
       replace B3 := B3.md m33
       replace B5 := B5.md m33
       have zm33 := m33.size
       refine ⟨GS32, ?_⟩
       refine D_en (by kernel_rfl) rfl rfl ?_
       refine ib_n ?_
       refine th_n (hK3 _ _ ?_)
       clear hK3 K3
       refine wp_seq_k fun K25 hK25 => ?_
       refine Sb 131 rfl ?_  -- 23
       refine S_val (Y_loadS Try.underlying32 rfl sz32 rfl (B5.row (by rfl))) ?_  -- l51
       refine S_stM (pre := []) (old := [_, _]) (post := []) (vs := [_, _]) sz32 rfl rfl rfl (by first | rfl | assumption) B3 rfl rfl ?_
       intro w34 m34 X34
       replace B3 := Blk.eq (ys := [_, _]) X34 rfl
       clear X34
       replace G := G.abv m34
       replace hAl := hAl0.grow G
       replace hBl := hBl0.grow G
       replace OXF := OXF.md m34
       replace B1 := B1.md m34
       replace B2 := B2.md m34
       replace B5 := B5.md m34
       have zm34 := m34.size
       refine S_nl rfl rfl ?_
       refine th_n (hK25 _ _ ?_)
       clear hK25 K25
       refine wp_ret ?_
       refine ret_rc (cs := [_, _]) Try.underlying32 rfl sz32 rfl rfl (B3.row (by rfl)) ?_  -- r7
       exact ⟨_, _, _, _, _, _, _, _, rfl, by simp, by simp, hvF, OXF.weak (fun i hi => by first | omega | (dsimp only at hi; omega)), G⟩
      · -- c8F
       replace hb6 := nb_tf hb6
       unfold cvP at hcv; dsimp only at hcv; omega
end
/-! WalkRh -/
section
open Go Go.RowKit
attribute [local irreducible] wpList wpAnyH Code.wp dOp
set_option maxHeartbeats 400000 in
set_option maxRecDepth 20000 in
theorem spec_StepHeap_c (Pr : Nat → Prop) (A B : Option Addr) (h : LH) (c d : Nat) (oop oa ob oc : Int) (w : World) (hA : RC Pr w A h.cells) (hB : R1 Pr w B (ints h.roots)) (va : Valid h) (hcv : cvP ⟨oop, oa, ob, oc⟩) :
    Calls Try.prog 120 #[.agg #[.slice A h.cells.length c, .slice B h.roots.length d], .agg #[.int .i64 oop, .int .i64 oa, .int .i64 ob, .int .i64 oc]] w (Ret fun v w' => ∃ A1 B1 n1 c1 n2 c2 rs h2 ok, v = .tuple #[.agg #[.slice A1 n1 c1, .slice B1 n2 c2], .bool ok] ∧ n1 = h2.cells.length ∧ n2 = h2.roots.length ∧ Valid h2 ∧ XH (fun i => w.heap.size ≤ i) w' 63 3 A1 B1 h2 rs c1 c2 ∧ Grow w w') := by
 have hz1 := hsize_cells h
 have hz2 := hsize_roots h
 have hne : (63 : TypeId) ≠ 3 := by decide
 have hsm := va.small
 have h40 := va.le
 refine enter Try.func120 rfl Try.ntmps120 (L := [_,_,_,_,_,_,_,_,_,_,_,_,_,_,_,_,_,_,_,_,_,_,_,_,_,_,_,_,_,_,_,_,_,_,_,_,_,_]) rfl ?_
 have G := Mod.refl No w
 have hA0 := hA
 have hB0 := hB
 refine wp_seq_k fun K1 hK1 => ?_
 refine Sb 38 rfl ?_  -- 0
 refine S_box (cs := [_, _]) rfl rfl ?_
 intro b1 w1 fb1 g1 B1
 have lb1 := B1.lt
 replace hA := hA.grow g1
 replace hB := hB.grow g1
 replace G := G.grow g1
 have zg1 := g1.size
 refine S_box (cs := [_, _, _, _]) rfl rfl ?_
 intro b2 w2 fb2 g2 B2
 have lb2 := B2.lt
 replace hA := hA.grow g2
 replace hB := hB.grow g2
 replace G := G.grow g2
 replace B1 := B1.grow g2
 have zg2 := g2.size
 refine S_alloc (cs := [_, _]) zr32 rfl ?_
 intro b3 w3 fb3 g3 B3
 have lb3 := B3.lt
 replace hA := hA.grow g3
 replace hB := hB.grow g3
 replace G := G.grow g3
 replace B1 := B1.grow g3
 replace B2 := B2.grow g3
 have zg3 := g3.size
 refine S_val (Y_assign rfl) ?_
 refine S_nl rfl rfl ?_
 refine th_n (hK1 _ _ ?_)
 clear hK1 K1
 refine wp_seq_k fun K2 hK2 => ?_
 refine wp_seq_k fun K3 hK3 => ?_
 refine Sb 38 rfl ?_  -- 1
 refine S_val (Y_loadS Try.underlying32 rfl sz32 rfl (B1.row (by rfl))) ?_  -- l1
 refine S_call rfl en49 (spec_HeapValid_c _ _ _ _ _ _ _ (by assumption) (by assumption) (by omega)) ?_  -- k1 spec.HeapValid
 rintro v4 w4 ⟨rfl, g4⟩
 replace hA := hA.grow g4
 replace hB := hB.grow g4
 replace G := G.grow g4
 replace B1 := B1.grow g4
 replace B2 := B2.grow g4
 replace B3 := B3.grow g4
 have zg4 := g4.size
 refine S_val (Y_not rfl) ?_
 refine S_val (Y_move rfl) ?_
 refine S_g 9 rfl (fun hb1 => ?_) (fun hb1 => ?_)  -- g1
 · -- g1T
  first | with_reducible (replace hb1 := nb_nt hb1) | with_reducible (replace hb1 := nb_tt hb1) | with_reducible (replace hb1 := nb_bt hb1) | skip
  rw [valid_iff.2 va] at hb1; cases hb1
 · -- g1F
  first | with_reducible (replace hb1 := nb_nf hb1) | with_reducible (replace hb1 := nb_tf hb1) | with_reducible (replace hb1 := nb_bf hb1) | skip
  refine S_on rfl rfl ?_
  refine S_val (Y_loadS Try.underlying133 rfl sz133 rfl (B2.row (by rfl))) ?_  -- l2
  refine S_on rfl rfl ?_
  refine S_call rfl en125 (spec_CommandValid_c _ _ _ _ _) ?_  -- k2 spec.CommandValid
  rintro v5 w5 ⟨rfl, g5⟩
  replace hA := hA.grow g5
  replace hB := hB.grow g5
  replace G := G.grow g5
  replace B1 := B1.grow g5
  replace B2 := B2.grow g5
  replace B3 := B3.grow g5
  have zg5 := g5.size
  refine S_on rfl rfl ?_
  refine S_val (Y_not rfl) ?_
  refine S_val (Y_pickF rfl rfl) ?_
  refine S_nl rfl rfl ?_
  refine th_n (hK3 _ _ ?_)
  clear hK3 K3
  refine S_if rfl (fun hb2 => ?_) (fun hb2 => ?_)  -- c1
  · -- c1T
   first | with_reducible (replace hb2 := nb_nt hb2) | with_reducible (replace hb2 := nb_tt hb2) | with_reducible (replace hb2 := nb_bt hb2) | skip
   simp [cvB, hcv] at hb2
  · -- c1F
   first | with_reducible (replace hb2 := nb_nf hb2) | with_reducible (replace hb2 := nb_tf hb2) | with_reducible (replace hb2 := nb_bf hb2) | skip
   refine wp_skip ?_
   refine th_n (hK2 _ _ ?_)
   clear hK2 K2
   refine wp_seq_k fun K4 hK4 => ?_
   refine wp_seq_k fun K5 hK5 => ?_
   refine Sb 38 rfl ?_  -- 3
   refine S_val (Y_loadS Try.underlying32 rfl sz32 rfl (B1.row (by rfl))) ?_  -- l3
   refine S_val (Y_loadS Try.underlying133 rfl sz133 rfl (B2.row (by rfl))) ?_  -- l4
   refine S_call rfl en126 (spec_CommandPossible_c _ _ _ h _ _ _ _ _ _ _ (by assumption) (by assumption) (by omega)) ?_  -- k3 spec.CommandPossible
   rintro v6 w6 ⟨rfl, g6⟩
   replace hA := hA.grow g6
   replace hB := hB.grow g6
   replace G := G.grow g6
   replace B1 := B1.grow g6
   replace B2 := B2.grow g6
   replace B3 := B3.grow g6
   have zg6 := g6.size
   refine S_val (Y_not rfl) ?_
   refine S_val (Y_move rfl) ?_
   refine S_g 19 rfl (fun hb3 => ?_) (fun hb3 => ?_)  -- g2
   · -- g2T
    first | with_reducible (replace hb3 := nb_nt hb3) | with_reducible (replace hb3 := nb_tt hb3) | with_reducible (replace hb3 := nb_bt hb3) | skip
    refine S_off rfl rfl ?_
    refine S_off rfl rfl ?_
    refine S_off rfl rfl ?_
    refine S_off rfl rfl ?_
    refine S_offU rfl rfl ?_
    refine S_offU rfl rfl ?_
    refine S_offU rfl rfl ?_
    refine S_offU rfl rfl ?_
    refine S_off rfl rfl ?_
    refine S_val (Y_pickT rfl rfl) ?_
    refine S_nl rfl rfl ?_
    refine th_n (hK5 _ _ ?_)
    clear hK5 K5
    refine S_ifT rfl ?_
    refine wp_seq_k fun K6 hK6 => ?_
    refine Sb 38 rfl ?_  -- 4
    refine S_val (Y_loadS Try.underlying32 rfl sz32 rfl (B1.row (by rfl))) ?_  -- l5
    refine S_call rfl en87 (spec_l7Copy2_c _ _ _ _ _ _ _ (by assumption) (by assumption) (by omega)) ?_  -- k4 spec.l7Copy
    rintro v7 w7 ⟨A7, B7, n17, c17, n27, c27, rs7, rfl, hn17, hn27, O7, g7⟩
    replace hA := hA.grow g7
    replace hB := hB.grow g7
    replace G := G.grow g7
    replace B1 := B1.grow g7
    replace B2 := B2.grow g7
    replace B3 := B3.grow g7
    have zg7 := g7.size
    subst hn17
    subst hn27
    obtain ⟨AH, rfl⟩ : ∃ x, x = A7 := ⟨_, rfl⟩
    obtain ⟨BH, rfl⟩ : ∃ x, x = B7 := ⟨_, rfl⟩
    obtain ⟨cH, rfl⟩ : ∃ x, x = c17 := ⟨_, rfl⟩
    obtain ⟨dH, rfl⟩ : ∃ x, x = c27 := ⟨_, rfl⟩
    obtain ⟨rsH, rfl⟩ : ∃ x, x = rs7 := ⟨_, rfl⟩
    have OX := O7.lt
    have hvF := va
    refine S_stM (pre := []) (old := [_, _]) (post := []) (vs := [_, _]) sz32 rfl rfl rfl (by first | rfl | assumption) B3 rfl rfl ?_
    intro w8 m8 X8
    replace B3 := Blk.eq (ys := [_, _]) X8 rfl
    clear X8
    replace G := G.abv m8
    replace hA := hA0.grow G
    replace hB := hB0.grow G
    replace OX := OX.md m8
    replace B1 := B1.md m8
    replace B2 := B2.md m8
    have zm8 := m8.size
    refine S_val (Y_assign rfl) ?_
    refine S_nl rfl rfl ?_
    refine th_n (hK6 _ _ ?_)
    clear hK6 K6
    refine wp_ret ?_
    refine th_r ?_
    clear hK4 K4
    refine ret_rct (cs := [_, _]) Try.underlying32 rfl sz32 rfl rfl rfl (B3.row (by rfl)) ?_  -- r1
    exact ⟨_, _, _, _, _, _, _, _, _, rfl, rfl, rfl, hvF, OX.weak (fun i hi => by first | omega | (dsimp only at hi; omega)), G⟩
   · -- g2F
    first | with_reducible (replace hb3 := nb_nf hb3) | with_reducible (replace hb3 := nb_tf hb3) | with_reducible (replace hb3 := nb_bf hb3) | skip
    have hef : effectB h ⟨oop, oa, ob, oc⟩ = true := by rw [possB_t (valid_iff.2 va) (by simp [cvB, hcv])] at hb3; exact hb3
    refine S_on rfl rfl ?_
    refine S_val (Y_field Try.underlying133 rfl fz133_0 (by decide) rfl) ?_
    refine S_on rfl rfl ?_
    refine S_val (Y_load Try.underlying3 rfl rfl (B2.at (by rfl))) ?_  -- l6
    refine S_on rfl rfl ?_
    refine S_val (Y_eql rfl rfl) ?_
    refine S_on rfl rfl ?_
    refine S_val (Y_move rfl) ?_
    refine S_g 23 rfl (fun hb4 => ?_) (fun hb4 => ?_)  -- g3
    · -- g3T
     replace hb4 := nb_tt hb4
     refine S_on rfl rfl ?_
     refine S_val (Y_field Try.underlying32 rfl fz32_0 (by decide) rfl) ?_
     refine S_on rfl rfl ?_
     refine S_val (Y_load Try.underlying30 rfl rfl (B1.at (by rfl))) ?_  -- l7
     refine S_on rfl rfl ?_
     refine S_val (Y_len Try.underlying30 rfl) ?_
     refine S_on rfl rfl ?_
     refine S_val (Y_eql rfl rfl) ?_
     refine S_on rfl rfl ?_
     refine S_val (Y_pickT rfl rfl) ?_
     refine S_val (Y_pickF rfl rfl) ?_
     refine S_nl rfl rfl ?_
     refine th_n (hK5 _ _ ?_)
     clear hK5 K5
     refine S_if rfl (fun hb5 => ?_) (fun hb5 => ?_)  -- c2
     · -- c2T
      first | with_reducible (replace hb5 := nb_nt hb5) | with_reducible (replace hb5 := nb_tt hb5) | with_reducible (replace hb5 := nb_bt hb5) | skip
      refine wp_seq_k fun K7 hK7 => ?_
      refine Sb 38 rfl ?_  -- 4
      refine S_val (Y_loadS Try.underlying32 rfl sz32 rfl (B1.row (by rfl))) ?_  -- l8
      refine S_call rfl en87 (spec_l7Copy2_c _ _ _ _ _ _ _ (by assumption) (by assumption) (by omega)) ?_  -- k5 spec.l7Copy
      rintro v9 w9 ⟨A9, B9, n19, c19, n29, c29, rs9, rfl, hn19, hn29, O9, g9⟩
      replace hA := hA.grow g9
      replace hB := hB.grow g9
      replace G := G.grow g9
      replace B1 := B1.grow g9
      replace B2 := B2.grow g9
      replace B3 := B3.grow g9
      have zg9 := g9.size
      subst hn19
      subst hn29
      obtain ⟨AH, rfl⟩ : ∃ x, x = A9 := ⟨_, rfl⟩
      obtain ⟨BH, rfl⟩ : ∃ x, x = B9 := ⟨_, rfl⟩
      obtain ⟨cH, rfl⟩ : ∃ x, x = c19 := ⟨_, rfl⟩
      obtain ⟨dH, rfl⟩ : ∃ x, x = c29 := ⟨_, rfl⟩
      obtain ⟨rsH, rfl⟩ : ∃ x, x = rs9 := ⟨_, rfl⟩
      have OX := O9.lt
      have hvF := va
      refine S_stM (pre := []) (old := [_, _]) (post := []) (vs := [_, _]) sz32 rfl rfl rfl (by first | rfl | assumption) B3 rfl rfl ?_
      intro w10 m10 X10
      replace B3 := Blk.eq (ys := [_, _]) X10 rfl
      clear X10
      replace G := G.abv m10
      replace hA := hA0.grow G
      replace hB := hB0.grow G
      replace OX := OX.md m10
      replace B1 := B1.md m10
      replace B2 := B2.md m10
      have zm10 := m10.size
      refine S_val (Y_assign rfl) ?_
      refine S_nl rfl rfl ?_
      refine th_n (hK7 _ _ ?_)
      clear hK7 K7
      refine wp_ret ?_
      refine th_r ?_
      clear hK4 K4
      refine ret_rct (cs := [_, _]) Try.underlying32 rfl sz32 rfl rfl rfl (B3.row (by rfl)) ?_  -- r2
      exact ⟨_, _, _, _, _, _, _, _, _, rfl, rfl, rfl, hvF, OX.weak (fun i hi => by first | omega | (dsimp only at hi; omega)), G⟩
     · -- c2F
      first | with_reducible (replace hb5 := nb_nf hb5) | with_reducible (replace hb5 := nb_tf hb5) | with_reducible (replace hb5 := nb_bf hb5) | skip
      refine wp_skip ?_
      refine th_n (hK4 _ _ ?_)
      clear hK4 K4
      refine wp_seq_k fun K8 hK8 => ?_
      refine Sb 38 rfl ?_  -- 5
      refine S_val (Y_loadS Try.underlying32 rfl sz32 rfl (B1.row (by rfl))) ?_  -- l9
      refine S_val (Y_loadS Try.underlying133 rfl sz133 rfl (B2.row (by rfl))) ?_  -- l10
      refine S_val (Y_field Try.underlying32 rfl fz32_0 (by decide) rfl) ?_
      refine S_val (Y_load Try.underlying30 rfl rfl (B1.at (by rfl))) ?_  -- l11
      refine S_val (Y_len Try.underlying30 rfl) ?_
      refine S_call rfl en127 (spec_l8Do_c _ _ _ h _ _ h.cells.length _ _ _ _ _ hA hB va hcv hef (fun h1 => by omega)) ?_  -- k6 spec.l8Do
      rintro v11 w11 ⟨A11, B11, n111, c111, n211, c211, rs11, h11, rfl, hn111, hn211, va11, O11, g11⟩
      replace hA := hA.grow g11
      replace hB := hB.grow g11
      replace G := G.grow g11
      replace B1 := B1.grow g11
      replace B2 := B2.grow g11
      replace B3 := B3.grow g11
      have zg11 := g11.size
      obtain ⟨hF, rfl⟩ : ∃ x, x = h11 := ⟨_, rfl⟩
      have hvF := va11
      subst hn111
      subst hn211
      obtain ⟨AH, rfl⟩ : ∃ x, x = A11 := ⟨_, rfl⟩
      obtain ⟨BH, rfl⟩ : ∃ x, x = B11 := ⟨_, rfl⟩
      obtain ⟨cH, rfl⟩ : ∃ x, x = c111 := ⟨_, rfl⟩
      obtain ⟨dH, rfl⟩ : ∃ x, x = c211 := ⟨_, rfl⟩
      obtain ⟨rsH, rfl⟩ : ∃ x, x = rs11 := ⟨_, rfl⟩
      have OX := O11.lt
      refine S_stM (pre := []) (old := [_, _]) (post := []) (vs := [_, _]) sz32 rfl rfl rfl (by first | rfl | assumption) B3 rfl rfl ?_
      intro w12 m12 X12
      replace B3 := Blk.eq (ys := [_, _]) X12 rfl
      clear X12
      replace G := G.abv m12
      replace hA := hA0.grow G
      replace hB := hB0.grow G
      replace OX := OX.md m12
      replace B1 := B1.md m12
      replace B2 := B2.md m12
      have zm12 := m12.size
      refine S_val (Y_assign rfl) ?_
      refine S_nl rfl rfl ?_
      refine th_n (hK8 _ _ ?_)
      clear hK8 K8
      refine wp_ret ?_
      refine ret_rct (cs := [_, _]) Try.underlying32 rfl sz32 rfl rfl rfl (B3.row (by rfl)) ?_  -- r3
      exact ⟨_, _, _, _, _, _, _, _, _, rfl, rfl, rfl, hvF, OX.weak (fun i hi => by first | omega | (dsimp only at hi; omega)), G⟩
    · -- g3F
     replace hb4 := nb_tf hb4
     refine S_off rfl rfl ?_
     refine S_off rfl rfl ?_
     refine S_off rfl rfl ?_
     refine S_off rfl rfl ?_
     refine S_on rfl rfl ?_
     refine S_val (Y_pickF rfl rfl) ?_
     refine S_val (Y_pickF rfl rfl) ?_
     refine S_nl rfl rfl ?_
     refine th_n (hK5 _ _ ?_)
     clear hK5 K5
     refine S_ifF rfl ?_
     refine wp_skip ?_
     refine th_n (hK4 _ _ ?_)
     clear hK4 K4
     refine wp_seq_k fun K9 hK9 => ?_
     refine Sb 38 rfl ?_  -- 5
     refine S_val (Y_loadS Try.underlying32 rfl sz32 rfl (B1.row (by rfl))) ?_  -- l12
     refine S_val (Y_loadS Try.underlying133 rfl sz133 rfl (B2.row (by rfl))) ?_  -- l13
     refine S_val (Y_field Try.underlying32 rfl fz32_0 (by decide) rfl) ?_
     refine S_val (Y_load Try.underlying30 rfl rfl (B1.at (by rfl))) ?_  -- l14
     refine S_val (Y_len Try.underlying30 rfl) ?_
     refine S_call rfl en127 (spec_l8Do_c _ _ _ h _ _ h.cells.length _ _ _ _ _ hA hB va hcv hef (fun h1 => by omega)) ?_  -- k7 spec.l8Do
     rintro v13 w13 ⟨A13, B13, n113, c113, n213, c213, rs13, h13, rfl, hn113, hn213, va13, O13, g13⟩
     replace hA := hA.grow g13
     replace hB := hB.grow g13
     replace G := G.grow g13
     replace B1 := B1.grow g13
     replace B2 := B2.grow g13
     replace B3 := B3.grow g13
     have zg13 := g13.size
     obtain ⟨hF, rfl⟩ : ∃ x, x = h13 := ⟨_, rfl⟩
     have hvF := va13
     subst hn113
     subst hn213
     obtain ⟨AH, rfl⟩ : ∃ x, x = A13 := ⟨_, rfl⟩
     obtain ⟨BH, rfl⟩ : ∃ x, x = B13 := ⟨_, rfl⟩
     obtain ⟨cH, rfl⟩ : ∃ x, x = c113 := ⟨_, rfl⟩
     obtain ⟨dH, rfl⟩ : ∃ x, x = c213 := ⟨_, rfl⟩
     obtain ⟨rsH, rfl⟩ : ∃ x, x = rs13 := ⟨_, rfl⟩
     have OX := O13.lt
     refine S_stM (pre := []) (old := [_, _]) (post := []) (vs := [_, _]) sz32 rfl rfl rfl (by first | rfl | assumption) B3 rfl rfl ?_
     intro w14 m14 X14
     replace B3 := Blk.eq (ys := [_, _]) X14 rfl
     clear X14
     replace G := G.abv m14
     replace hA := hA0.grow G
     replace hB := hB0.grow G
     replace OX := OX.md m14
     replace B1 := B1.md m14
     replace B2 := B2.md m14
     have zm14 := m14.size
     refine S_val (Y_assign rfl) ?_
     refine S_nl rfl rfl ?_
     refine th_n (hK9 _ _ ?_)
     clear hK9 K9
     refine wp_ret ?_
     refine ret_rct (cs := [_, _]) Try.underlying32 rfl sz32 rfl rfl rfl (B3.row (by rfl)) ?_  -- r4
     exact ⟨_, _, _, _, _, _, _, _, _, rfl, rfl, rfl, hvF, OX.weak (fun i hi => by first | omega | (dsimp only at hi; omega)), G⟩
set_option maxHeartbeats 400000 in
set_option maxRecDepth 20000 in
theorem spec_RunHeap_c (Pr : Nat → Prop) (A : Option Addr) (xs : List LCmd) (c : Nat) (w : World) (hA : RO Pr w A xs) (hx : xs.length ≤ 1048576) (hcs : csB xs = true) :
    Calls Try.prog 105 #[.slice A xs.length c] w (Ret fun v w' => ∃ A1 B1 n1 c1 n2 c2 rs h2, v = .agg #[.slice A1 n1 c1, .slice B1 n2 c2] ∧ n1 = h2.cells.length ∧ n2 = h2.roots.length ∧ Valid h2 ∧ XH (fun i => w.heap.size ≤ i) w' 63 3 A1 B1 h2 rs c1 c2 ∧ Grow w w') := by
 have hAl := hA.below
 have hne : (63 : TypeId) ≠ 3 := by decide
 have hall : ∀ (k : Nat) (hk : k < xs.length), cvB xs[k] = true := fun k hk => by unfold csB at hcs; rw [decide_eq_true_eq] at hcs; exact List.all_eq_true.1 hcs.2 _ (List.getElem_mem hk)
 refine enter Try.func105 rfl Try.ntmps105 (L := [_,_,_,_,_,_,_,_,_,_,_,_,_,_,_,_,_,_,_,_,_,_,_,_,_,_,_,_,_]) rfl ?_
 have G := Mod.refl No w
 have hAl0 := hAl
 refine wp_seq_k fun K1 hK1 => ?_
 refine Sb 29 rfl ?_  -- 0
 refine S_alloc (cs := [_, _]) zr32 rfl ?_
 intro b1 w1 fb1 g1 B1
 have lb1 := B1.lt
 replace hAl := hAl.grow g1
 replace G := G.grow g1
 have zg1 := g1.size
 refine S_nl rfl rfl ?_
 refine th_n (hK1 _ _ ?_)
 clear hK1 K1
 refine wp_seq_k fun K2 hK2 => ?_
 refine wp_seq_k fun K3 hK3 => ?_
 refine Sb 29 rfl ?_  -- 1
 refine S_val (Y_move rfl) ?_
 refine S_call rfl en118 (spec_CommandsValid_c _ _ _ _ _ (by assumption) (by omega)) ?_  -- k1 spec.CommandsValid
 rintro v2 w2 ⟨rfl, g2⟩
 replace hAl := hAl.grow g2
 replace G := G.grow g2
 replace B1 := B1.grow g2
 have zg2 := g2.size
 refine S_val (Y_not rfl) ?_
 refine S_nl rfl rfl ?_
 refine th_n (hK3 _ _ ?_)
 clear hK3 K3
 refine S_if rfl (fun hb1 => ?_) (fun hb1 => ?_)  -- c1
 · -- c1T
  first | with_reducible (replace hb1 := nb_nt hb1) | with_reducible (replace hb1 := nb_tt hb1) | with_reducible (replace hb1 := nb_bt hb1) | skip
  rw [hcs] at hb1; cases hb1
 · -- c1F
  first | with_reducible (replace hb1 := nb_nf hb1) | with_reducible (replace hb1 := nb_tf hb1) | with_reducible (replace hb1 := nb_bf hb1) | skip
  refine wp_skip ?_
  refine th_n (hK2 _ _ ?_)
  clear hK2 K2
  refine wp_seq_k fun K4 hK4 => ?_
  refine Sb 29 rfl ?_  -- 3
  refine S_call rfl en119 (spec_EmptyHeap2_c _) ?_  -- k2 spec.EmptyHeap
  rintro v3 w3 ⟨A3, B3, n13, c13, n23, c23, rs3, rfl, hn13, hn23, O3, g3⟩
  replace hAl := hAl.grow g3
  replace G := G.grow g3
  replace B1 := B1.grow g3
  have zg3 := g3.size
  subst hn13
  subst hn23
  obtain ⟨AH, rfl⟩ : ∃ x, x = A3 := ⟨_, rfl⟩
  obtain ⟨BH, rfl⟩ : ∃ x, x = B3 := ⟨_, rfl⟩
  obtain ⟨cH, rfl⟩ : ∃ x, x = c13 := ⟨_, rfl⟩
  obtain ⟨dH, rfl⟩ : ∃ x, x = c23 := ⟨_, rfl⟩
  obtain ⟨rsH, rfl⟩ : ∃ x, x = rs3 := ⟨_, rfl⟩
  have OX := O3.lt
  refine S_alloc (cs := [_, _]) zr32 rfl ?_
  intro b4 w4 fb4 g4 B4
  have lb4 := B4.lt
  replace hAl := hAl.grow g4
  replace OX := OX.grow g4
  replace G := G.grow g4
  replace B1 := B1.grow g4
  have zg4 := g4.size
  refine S_stM (pre := []) (old := [_, _]) (post := []) (vs := [_, _]) sz32 rfl rfl rfl (by first | rfl | assumption) B4 rfl rfl ?_
  intro w5 m5 X5
  replace B4 := Blk.eq (ys := [_, _]) X5 rfl
  clear X5
  replace G := G.abv m5
  replace hAl := hAl0.grow G
  replace OX := OX.md m5
  replace B1 := B1.md m5
  have zm5 := m5.size
  refine S_nl rfl rfl ?_
  refine th_n (hK4 _ _ ?_)
  clear hK4 K4
  refine wp_seq_k fun K5 hK5 => ?_
  refine wp_seq_k fun K6 hK6 => ?_
  refine Sb 29 rfl ?_  -- 4
  refine S_val (Y_assign rfl) ?_
  refine S_nl rfl rfl ?_
  refine th_n (hK6 _ _ ?_)
  clear hK6 K6
  refine wp_block ?_
  replace OX := OX.weak (Pr' := fun i => b1 < i ∧ i ≠ b4) (fun i hi => by first | omega | (dsimp only at hi; omega))
  go_loopw [4] (fun u4 wr => (∃ (k : Nat) (hK : LH) (AK BK : Option Addr) (c1 c2 : Nat) (rs : List (Option Addr × Nat)), u4 = .int .i64 k ∧ k ≤ xs.length ∧ Blk wr b4 32 [.slice AK hK.cells.length c1, .slice BK hK.roots.length c2].toArray ∧ Valid hK ∧ XH (fun i => b1 < i ∧ i ≠ b4) wr 63 3 AK BK hK rs c1 c2) ∧ Mod (fun i => i = b4) w5 wr) (fun u4 wr => xs.length - (intOf u4).toNat)  -- L1
  case atStart =>
   refine ⟨?_, Mod.refl _ _⟩
   exact ⟨0, emptyH, _, _, _, _, _, rfl, by omega, B4, valid_iff.1 (by decide), OX⟩
  case round =>
   obtain ⟨w6, rfl⟩ : ∃ x : World, x = wr := ⟨_, rfl⟩
   obtain ⟨hrel, g6⟩ := hrel
   clear B4
   clear OX
   replace G := G.abv g6
   replace hAl := hAl0.grow G
   replace B1 := B1.md g6
   have zg6 := g6.size
   obtain ⟨k, hK, AK, BK, c1, c2, rs, rfl, hk, B4, vK, OK1⟩ := hrel
   replace OK1 := OK1.lt
   have hKA := OK1.rc
   have hKB := OK1.r1
   have GL6 := g6
   refine wp_seq_k fun K7 hK7 => ?_
   refine wp_seq_k fun K8 hK8 => ?_
   refine Sb 29 rfl ?_  -- 5
   refine S_val (Y_move rfl) ?_
   refine S_val (Y_move rfl) ?_
   refine S_val (Y_len Try.underlying120 rfl) ?_
   refine S_val (Y_lss rfl rfl) ?_
   refine S_nl rfl rfl ?_
   refine th_n (hK8 _ _ ?_)
   clear hK8 K8
   refine S_if rfl (fun hb2 => ?_) (fun hb2 => ?_)  -- c2
   · -- c2T
    replace hb2 := nb_tt hb2
    have hk1 : k < xs.length := by omega
    obtain ⟨g2, o2, rfl, hp2, cc20⟩ := hAl0.cell hk1
    have cc2 := cc20.grow G
    refine wp_skip ?_
    refine th_n (hK7 _ _ ?_)
    clear hK7 K7
    refine wp_seq_k fun K9 hK9 => ?_
    refine wp_block ?_
    refine wp_seq_k fun K10 hK10 => ?_
    refine D_start 12 29 (fun w => Mod (No) w) follows rfl rfl ?_  -- d1 r7
    intro w7 g7
    replace hAl := hAl.grow g7
    replace cc2 := cc2.grow g7
    replace OK1 := OK1.grow g7
    replace hKA := hKA.grow g7
    replace hKB := hKB.grow g7
    replace G := G.grow g7
    replace GL6 := GL6.grow g7
    replace B1 := B1.grow g7
    replace B4 := B4.grow g7
    have zg7 := g7.size
    have GS7 := Mod.refl (No) w7
    have B4d7 := B4
    refine Dq (i := 0) rfl GS7 (fun _ hs => Y_loadS Try.underlying32 rfl sz32 rfl (by first | exact hs.cells0 (B4.row (by rfl)))) ?_
    refine Dq (i := 1) rfl GS7 (fun _ _ => Y_move rfl) ?_
    refine Dq (i := 2) rfl GS7 (fun _ _ => Y_move rfl) ?_
    refine Dq (i := 3) rfl GS7 (fun _ _ => Y_index Try.underlying120 sz133 rfl rfl (by first | assumption | omega)) ?_
    refine Dq (i := 4) rfl GS7 (fun _ hs => Y_loadS Try.underlying133 rfl sz133 rfl (by first | exact hs.cells0 (by assumption) | exact hs.cells0 (B1.row (by rfl)) | exact hs.cells0 (B4.row (by rfl)))) ?_
    refine D_2 (i := 5) (j := 9) (by kernel_rfl) ?_ ?_
    · -- operation 5 comes up
     refine E_call rfl rfl en120 (spec_StepHeap_c _ _ _ hK _ _ _ _ _ _ _ hKA hKB vK (cvB_d0 (hall k hk1))) ?_  -- k3 spec.StepHeap
     rintro v8 w8 ⟨A8, B8, n18, c18, n28, c28, rs8, h8, ok8, rfl, hn18, hn28, va8, O8, g8⟩
     replace hAl := hAl.grow g8
     replace cc2 := cc2.grow g8
     replace OK1 := OK1.grow g8
     replace hKA := hKA.grow g8
     replace hKB := hKB.grow g8
     replace G := G.grow g8
     replace GL6 := GL6.grow g8
     replace GS7 := GS7.grow g8
     replace B1 := B1.grow g8
     replace B4 := B4.grow g8
     have zg8 := g8.size
     obtain ⟨hN, rfl⟩ : ∃ x, x = h8 := ⟨_, rfl⟩
     have vN := va8
     subst hn18
     subst hn28
     obtain ⟨AN, rfl⟩ : ∃ x, x = A8 := ⟨_, rfl⟩
     obtain ⟨BN, rfl⟩ : ∃ x, x = B8 := ⟨_, rfl⟩
     obtain ⟨cN, rfl⟩ : ∃ x, x = c18 := ⟨_, rfl⟩
     obtain ⟨dN, rfl⟩ : ∃ x, x = c28 := ⟨_, rfl⟩
     obtain ⟨rsN, rfl⟩ : ∃ x, x = rs8 := ⟨_, rfl⟩
     have ON := O8.lt
     refine ⟨GS7, ?_⟩
     refine Dq (i := 6) rfl GS7 (fun _ _ => Y_move rfl) ?_
     refine Dq (i := 7) rfl GS7 (fun _ _ => Y_extract rfl rfl) ?_
     refine Dq (i := 8) rfl GS7 (fun _ _ => Y_extract rfl rfl) ?_
     refine D_1 (i := 9) (by kernel_rfl) ?_
     refine E_alloc (cs := [_, _]) rfl zr32 rfl (fun b9 w9 fb9 g9 B9 => ⟨GS7.grow g9, ?_⟩)
     have lb9 := B9.lt
     replace hAl := hAl.grow g9
     replace cc2 := cc2.grow g9
     replace OK1 := OK1.grow g9
     replace hKA := hKA.grow g9
     replace hKB := hKB.grow g9
     replace ON := ON.grow g9
     replace G := G.grow g9
     replace GL6 := GL6.grow g9
     replace GS7 := GS7.grow g9
     replace B1 := B1.grow g9
     replace B4 := B4.grow g9
     have zg9 := g9.size
     refine D_1 (i := 10) (by kernel_rfl) ?_
     refine E_stM (pre := []) (old := [_, _]) (post := []) (vs := [_, _]) (i := 10) rfl sz32 rfl rfl rfl (by first | rfl | assumption) B9 rfl rfl ?_
     intro w10 m10 X10
     replace B9 := Blk.eq (ys := [_, _]) X10 rfl
     clear X10
     replace G := G.abv m10
     first | replace GL6 := GL6.abv m10 | clear GL6
     replace GS7 := GS7.abv m10
     replace hAl := hAl0.grow G
     replace cc2 := cc20.grow G
     replace OK1 := OK1.md m10
     replace hKA := hKA.md m10
     replace hKB := hKB.md m10
     replace ON := ON.md m10
     replace B1 := B1.md m10
     replace B4 := B4.md m10
     have zm10 := m10.size
     refine ⟨GS7, ?_⟩
     refine Dq (i := 11) rfl GS7 (fun _ _ => Y_assign rfl) ?_
     refine D_en (by kernel_rfl) rfl rfl ?_
     refine th_n (hK10 _ _ ?_)
     clear hK10 K10
     refine Sb 29 rfl ?_  -- 8
     refine S_val (Y_loadS Try.underlying32 rfl sz32 rfl (B9.row (by rfl))) ?_  -- l3
     refine S_stM (pre := []) (old := [_, _]) (post := []) (vs := [_, _]) sz32 rfl rfl rfl (by first | rfl | assumption) B4 rfl rfl ?_
     intro w11 m11 X11
     replace B4 := Blk.eq (ys := [_, _]) X11 rfl
     clear X11
     replace G := G.abv m11
     replace GL6 := GL6.trn m11
     replace hAl := hAl0.grow G
     replace cc2 := cc20.grow G
     replace OK1 := OK1.md m11
     replace hKA := hKA.md m11
     replace hKB := hKB.md m11
     replace ON := ON.md m11
     replace B1 := B1.md m11
     replace B9 := B9.md m11
     have zm11 := m11.size
     refine S_nl rfl rfl ?_
     refine ib_n ?_
     refine th_n (hK9 _ _ ?_)
     clear hK9 K9
     refine Sb 29 rfl ?_  -- 6
     refine S_val (Y_move rfl) ?_
     refine S_val (Y_inc rfl rfl (by omega)) ?_
     refine S_val (Y_assign rfl) ?_
     refine S_nl rfl rfl ?_
     refine th_n ?_
     go_roundw  -- e1 of L1
     case rel =>
      refine ⟨?_, GL6⟩
      exact ⟨k + 1, hN, _, _, _, _, _, rfl, by omega, B4, vN, ON.weak (fun i hi => by first | omega | (dsimp only at hi; omega))⟩
     case measure =>
      exact dec_nat (by omega)
    · -- operation 9 comes up
     refine E_alloc (cs := [_, _]) rfl zr32 rfl (fun b12 w12 fb12 g12 B12 => ⟨GS7.grow g12, ?_⟩)
     have lb12 := B12.lt
     replace hAl := hAl.grow g12
     replace cc2 := cc2.grow g12
     replace OK1 := OK1.grow g12
     replace hKA := hKA.grow g12
     replace hKB := hKB.grow g12
     replace G := G.grow g12
     replace GL6 := GL6.grow g12
     replace GS7 := GS7.grow g12
     replace B1 := B1.grow g12
     replace B4 := B4.grow g12
     have zg12 := g12.size
     refine D_1 (i := 5) (by kernel_rfl) ?_
     refine E_call rfl rfl en120 (spec_StepHeap_c _ _ _ hK _ _ _ _ _ _ _ hKA hKB vK (cvB_d0 (hall k hk1))) ?_  -- k4 spec.StepHeap
     rintro v13 w13 ⟨A13, B13, n113, c113, n213, c213, rs13, h13, ok13, rfl, hn113, hn213, va13, O13, g13⟩
     replace hAl := hAl.grow g13
     replace cc2 := cc2.grow g13
     replace OK1 := OK1.grow g13
     replace hKA := hKA.grow g13
     replace hKB := hKB.grow g13
     replace G := G.grow g13
     replace GL6 := GL6.grow g13
     replace GS7 := GS7.grow g13
     replace B1 := B1.grow g13
     replace B4 := B4.grow g13
     replace B12 := B12.grow g13
     have zg13 := g13.size
     obtain ⟨hN, rfl⟩ : ∃ x, x = h13 := ⟨_, rfl⟩
     have vN := va13
     subst hn113
     subst hn213
     obtain ⟨AN, rfl⟩ : ∃ x, x = A13 := ⟨_, rfl⟩
     obtain ⟨BN, rfl⟩ : ∃ x, x = B13 := ⟨_, rfl⟩
     obtain ⟨cN, rfl⟩ : ∃ x, x = c113 := ⟨_, rfl⟩
     obtain ⟨dN, rfl⟩ : ∃ x, x = c213 := ⟨_, rfl⟩
     obtain ⟨rsN, rfl⟩ : ∃ x, x = rs13 := ⟨_, rfl⟩
     have ON := O13.lt
     refine ⟨GS7, ?_⟩
     refine Dq (i := 6) rfl GS7 (fun _ _ => Y_move rfl) ?_
     refine Dq (i := 7) rfl GS7 (fun _ _ => Y_extract rfl rfl) ?_
     refine Dq (i := 8) rfl GS7 (fun _ _ => Y_extract rfl rfl) ?_
     refine D_1 (i := 10) (by kernel_rfl) ?_
     refine E_stM (pre := []) (old := [_, _]) (post := []) (vs := [_, _]) (i := 10) rfl sz32 rfl rfl rfl (by first | rfl | assumption) B12 rfl rfl ?_
     intro w14 m14 X14
     replace B12 := Blk.eq (ys := [_, _]) X14 rfl
     clear X14
     replace G := G.abv m14
     first | replace GL6 := GL6.abv m14 | clear GL6
     replace GS7 := GS7.abv m14
     replace hAl := hAl0.grow G
     replace cc2 := cc20.grow G
     replace OK1 := OK1.md m14
     replace hKA := hKA.md m14
     replace hKB := hKB.md m14
     replace ON := ON.md m14
     replace B1 := B1.md m14
     replace B4 := B4.md m14
     have zm14 := m14.size
     refine ⟨GS7, ?_⟩
     refine Dq (i := 11) rfl GS7 (fun _ _ => Y_assign rfl) ?_
     refine D_en (by kernel_rfl) rfl rfl ?_
     refine th_n (hK10 _ _ ?_)
     clear hK10 K10
     refine Sb 29 rfl ?_  -- 8
     refine S_val (Y_loadS Try.underlying32 rfl sz32 rfl (B12.row (by rfl))) ?_  -- l4
     refine S_stM (pre := []) (old := [_, _]) (post := []) (vs := [_, _]) sz32 rfl rfl rfl (by first | rfl | assumption) B4 rfl rfl ?_
     intro w15 m15 X15
     replace B4 := Blk.eq (ys := [_, _]) X15 rfl
     clear X15
     replace G := G.abv m15
     replace GL6 := GL6.trn m15
     replace hAl := hAl0.grow G
     replace cc2 := cc20.grow G
     replace OK1 := OK1.md m15
     replace hKA := hKA.md m15
     replace hKB := hKB.md m15
     replace ON := ON.md m15
     replace B1 := B1.md m15
     replace B12 := B12.md m15
     have zm15 := m15.size
     refine S_nl rfl rfl ?_
     refine ib_n ?_
     refine th_n (hK9 _ _ ?_)
     clear hK9 K9
     refine Sb 29 rfl ?_  -- 6
     refine S_val (Y_move rfl) ?_
     refine S_val (Y_inc rfl rfl (by omega)) ?_
     refine S_val (Y_assign rfl) ?_
     refine S_nl rfl rfl ?_
     refine th_n ?_
     go_roundw  -- e2 of L1
     case rel =>
      refine ⟨?_, GL6⟩
      exact ⟨k + 1, hN, _, _, _, _, _, rfl, by omega, B4, vN, ON.weak (fun i hi => by first | omega | (dsimp only at hi; omega))⟩
     case measure =>
      exact dec_nat (by omega)
   · -- c2F
    replace hb2 := nb_tf hb2
    refine wp_exit ?_
    refine th_x ?_
    try clear GL6
    refine th_x ?_
    refine ib_e ?_
    refine th_n (hK5 _ _ ?_)
    clear hK7 K7 hK5 K5
    refine wp_seq_k fun K11 hK11 => ?_
    refine Sb 29 rfl ?_  -- 9
    refine S_val (Y_loadS Try.underlying32 rfl sz32 rfl (B4.row (by rfl))) ?_  -- l5
    refine S_stM (pre := []) (old := [_, _]) (post := []) (vs := [_, _]) sz32 rfl rfl rfl (by first | rfl | assumption) B1 rfl rfl ?_
    intro w16 m16 X16
    replace B1 := Blk.eq (ys := [_, _]) X16 rfl
    clear X16
    replace G := G.abv m16
    replace hAl := hAl0.grow G
    replace OK1 := OK1.md m16
    replace hKA := hKA.md m16
    replace hKB := hKB.md m16
    replace B4 := B4.md m16
    have zm16 := m16.size
    refine S_nl rfl rfl ?_
    refine th_n (hK11 _ _ ?_)
    clear hK11 K11
    refine wp_ret ?_
    refine ret_rc (cs := [_, _]) Try.underlying32 rfl sz32 rfl rfl (B1.row (by rfl)) ?_  -- r1
    exact ⟨_, _, _, _, _, _, _, _, rfl, rfl, rfl, vK, OK1.weak (fun i hi => by first | omega | (dsimp only at hi; omega)), G⟩
set_option maxHeartbeats 400000 in
set_option maxRecDepth 20000 in
theorem spec_l11Drop2_c (Pr P2 : Nat → Prop) (A B C : Option Addr) (h : LH) (ds : List Bool) (c d e : Nat) (w : World) (hA : RC Pr w A h.cells) (hB : R1 Pr w B (ints h.roots)) (hC : R1 P2 w C (bools ds)) (hz : hsize h ≤ 1048576) (hdl : ds.length ≤ h.cells.length) :
    Calls Try.prog 89 #[.agg #[.slice A h.cells.length c, .slice B h.roots.length d], .slice C ds.length e] w (Ret fun v w' => ∃ A1 B1 n1 c1 n2 c2 rs, v = .agg #[.slice A1 n1 c1, .slice B1 n2 c2] ∧ n1 = (dropH h (inB ds)).cells.length ∧ n2 = (dropH h (inB ds)).roots.length ∧ XH (fun i => w.heap.size ≤ i) w' 63 3 A1 B1 (dropH h (inB ds)) rs c1 c2 ∧ Grow w w') := by
 have hz1 := hsize_cells h
 have hz2 := hsize_roots h
 have hne : (63 : TypeId) ≠ 3 := by decide
 have hAl := hA.below
 have hBl := hB.below
 have hCl := hC.below
 refine enter Try.func89 rfl Try.ntmps89 (L := [_,_,_,_,_,_,_,_,_,_,_,_,_,_,_,_,_,_,_,_,_,_,_,_,_]) rfl ?_
 have G := Mod.refl No w
 have hAl0 := hAl
 have hBl0 := hBl
 have hCl0 := hCl
 refine wp_seq_k fun K1 hK1 => ?_
 refine Sb 25 rfl ?_  -- 0
 refine S_box (cs := [_, _]) rfl rfl ?_
 intro b1 w1 fb1 g1 B1
 have lb1 := B1.lt
 replace hAl := hAl.grow g1
 replace hBl := hBl.grow g1
 replace hCl := hCl.grow g1
 replace G := G.grow g1
 have zg1 := g1.size
 refine S_alloc (cs := [_, _]) zr32 rfl ?_
 intro b2 w2 fb2 g2 B2
 have lb2 := B2.lt
 replace hAl := hAl.grow g2
 replace hBl := hBl.grow g2
 replace hCl := hCl.grow g2
 replace G := G.grow g2
 replace B1 := B1.grow g2
 have zg2 := g2.size
 refine S_nl rfl rfl ?_
 refine th_n (hK1 _ _ ?_)
 clear hK1 K1
 refine wp_seq_k fun K2 hK2 => ?_
 refine Sb 25 rfl ?_  -- 1
 refine S_val (Y_loadS Try.underlying32 rfl sz32 rfl (B1.row (by rfl))) ?_  -- l1
 refine S_call rfl en87 (spec_l7Copy2_c _ _ _ _ _ _ _ (by assumption) (by assumption) (by omega)) ?_  -- k1 spec.l7Copy
 rintro v3 w3 ⟨A3, B3, n13, c13, n23, c23, rs3, rfl, hn13, hn23, O3, g3⟩
 replace hAl := hAl.grow g3
 replace hBl := hBl.grow g3
 replace hCl := hCl.grow g3
 replace G := G.grow g3
 replace B1 := B1.grow g3
 replace B2 := B2.grow g3
 have zg3 := g3.size
 subst hn13
 subst hn23
 obtain ⟨AH, rfl⟩ : ∃ x, x = A3 := ⟨_, rfl⟩
 obtain ⟨BH, rfl⟩ : ∃ x, x = B3 := ⟨_, rfl⟩
 obtain ⟨cH, rfl⟩ : ∃ x, x = c13 := ⟨_, rfl⟩
 obtain ⟨dH, rfl⟩ : ∃ x, x = c23 := ⟨_, rfl⟩
 obtain ⟨rsH, rfl⟩ : ∃ x, x = rs3 := ⟨_, rfl⟩
 have OX := O3.lt
 refine S_alloc (cs := [_, _]) zr32 rfl ?_
 intro b4 w4 fb4 g4 B4
 have lb4 := B4.lt
 replace hAl := hAl.grow g4
 replace hBl := hBl.grow g4
 replace hCl := hCl.grow g4
 replace OX := OX.grow g4
 replace G := G.grow g4
 replace B1 := B1.grow g4
 replace B2 := B2.grow g4
 have zg4 := g4.size
 refine S_stM (pre := []) (old := [_, _]) (post := []) (vs := [_, _]) sz32 rfl rfl rfl (by first | rfl | assumption) B4 rfl rfl ?_
 intro w5 m5 X5
 replace B4 := Blk.eq (ys := [_, _]) X5 rfl
 clear X5
 replace G := G.abv m5
 replace hAl := hAl0.grow G
 replace hBl := hBl0.grow G
 replace hCl := hCl0.grow G
 replace OX := OX.md m5
 replace B1 := B1.md m5
 replace B2 := B2.md m5
 have zm5 := m5.size
 refine S_nl rfl rfl ?_
 refine th_n (hK2 _ _ ?_)
 clear hK2 K2
 refine wp_seq_k fun K3 hK3 => ?_
 refine wp_seq_k fun K4 hK4 => ?_
 refine Sb 25 rfl ?_  -- 2
 refine S_val (Y_assign rfl) ?_
 refine S_nl rfl rfl ?_
 refine th_n (hK4 _ _ ?_)
 clear hK4 K4
 refine wp_block ?_
 replace OX := OX.weak (Pr' := fun i => b2 < i ∧ i < b4) (fun i hi => by first | omega | (dsimp only at hi; omega))
 go_loopw [6] (fun u6 wr => (∃ (k : Nat) (rs1 : List (Option Addr × Nat)), u6 = .int .i64 k ∧ k ≤ ds.length ∧ XH (fun i => b2 < i ∧ i < b4) wr 63 3 AH BH ⟨dropK h.cells (inB ds) k, h.roots⟩ rs1 cH dH) ∧ Mod (fun i => b2 < i ∧ i < b4) w5 wr) (fun u6 wr => ds.length - (intOf u6).toNat)  -- L1
 case atStart =>
  refine ⟨?_, Mod.refl _ _⟩
  exact ⟨0, rsH, rfl, by omega, OX.cast (by rw [dropK_zero])⟩
 case round =>
  obtain ⟨w6, rfl⟩ : ∃ x : World, x = wr := ⟨_, rfl⟩
  obtain ⟨hrel, g6⟩ := hrel
  clear OX
  replace G := G.abv g6
  replace hAl := hAl0.grow G
  replace hBl := hBl0.grow G
  replace hCl := hCl0.grow G
  replace B1 := B1.md g6
  replace B2 := B2.md g6
  replace B4 := B4.md g6
  have zg6 := g6.size
  obtain ⟨k, rs1, rfl, hk, OX⟩ := hrel
  have GL6 := g6
  refine wp_seq_k fun K5 hK5 => ?_
  refine wp_seq_k fun K6 hK6 => ?_
  refine Sb 25 rfl ?_  -- 3
  refine S_val (Y_move rfl) ?_
  refine S_val (Y_move rfl) ?_
  refine S_val (Y_len Try.underlying27 rfl) ?_
  refine S_val (Y_lss rfl rfl) ?_
  refine S_nl rfl rfl ?_
  refine th_n (hK6 _ _ ?_)
  clear hK6 K6
  refine S_if rfl (fun hb1 => ?_) (fun hb1 => ?_)  -- c1
  · -- c1T
   replace hb1 := nb_tt hb1
   have hk2 : k < ds.length := by omega
   have hk1 : k < h.cells.length := by omega
   obtain ⟨g3, o3, rfl, hp3, hc3⟩ := hCl.bool hk2
   have hkl : k < (dropK h.cells (inB ds) k).length := by rw [dropK_len]; exact hk1
   obtain ⟨gC, RX, capX, rfl, hpC, _, ccx, _, _⟩ := OX.cellAt hne (i := k) hkl
   refine wp_skip ?_
   refine th_n (hK5 _ _ ?_)
   clear hK5 K5
   refine wp_seq_k fun K7 hK7 => ?_
   refine wp_block ?_
   refine wp_seq_k fun K8 hK8 => ?_
   refine Sb 25 rfl ?_  -- 5
   refine S_val (Y_move rfl) ?_
   refine S_val (Y_move rfl) ?_
   refine S_val (Y_index Try.underlying27 sz4 rfl rfl (by first | assumption | omega)) ?_
   refine S_val (Y_load Try.underlying4 rfl rfl (by first | assumption | exact ccx.at (by rfl) | exact B1.at (by rfl) | exact B2.at (by rfl) | exact B4.at (by rfl))) ?_  -- l2
   refine S_nl rfl rfl ?_
   refine th_n (hK8 _ _ ?_)
   clear hK8 K8
   refine S_if rfl (fun hb2 => ?_) (fun hb2 => ?_)  -- c2
   · -- c2T
    first | with_reducible (replace hb2 := nb_nt hb2) | with_reducible (replace hb2 := nb_tt hb2) | with_reducible (replace hb2 := nb_bt hb2) | skip
    have hpk : inB ds k = true := by rw [inB_at hk2]; exact hb2
    refine Sb 25 rfl ?_  -- 6
    refine S_val (Y_field Try.underlying32 rfl fz32_0 (by decide) rfl) ?_
    refine S_val (Y_load Try.underlying30 rfl rfl (B4.at (by rfl))) ?_  -- l3
    refine S_val (Y_move rfl) ?_
    refine S_val (Y_build (cs := [_, _, _]) zr63 pc63 rfl rfl) ?_
    refine S_val (Y_index Try.underlying30 sz63 rfl rfl (by first | assumption | omega)) ?_
    refine S_of (Ys_cell (z := emptyC) (R := none) (PR := No) sz63 OX hne (i := k) hkl (OI.nil _ _ _ _) (fun i hi => hi.elim) rfl rfl) ?_
    rintro w7 ⟨m7, hp7, OY⟩
    replace OY := OY.weak (Pr' := (fun i => b2 < i ∧ i < b4)) (fun i hi => hi.elim (fun h9 => h9) (fun h9 => h9.elim))
    replace OY := OY.cast (h2 := ⟨dropK h.cells (inB ds) (k + 1), h.roots⟩) (by rw [← dropK_yes hk1 hpk])
    replace G := G.abv m7
    replace GL6 := GL6.trn m7
    replace hAl := hAl0.grow G
    replace hBl := hBl0.grow G
    replace hCl := hCl0.grow G
    replace B1 := B1.md m7
    replace B2 := B2.md m7
    replace B4 := B4.md m7
    have zm7 := m7.size
    refine S_nl rfl rfl ?_
    refine ib_n ?_
    refine th_n (hK7 _ _ ?_)
    clear hK7 K7
    refine Sb 25 rfl ?_  -- 4
    refine S_val (Y_move rfl) ?_
    refine S_val (Y_inc rfl rfl (by omega)) ?_
    refine S_val (Y_assign rfl) ?_
    refine S_nl rfl rfl ?_
    refine th_n ?_
    go_roundw  -- e1 of L1
    case rel =>
     refine ⟨?_, GL6⟩
     first | exact ⟨k + 1, _, rfl, by omega, OY⟩ | exact ⟨k + 1, rs1, rfl, by omega, OX.cast (by rw [dropK_no hpk])⟩
    case measure =>
     exact dec_nat (by omega)
   · -- c2F
    first | with_reducible (replace hb2 := nb_nf hb2) | with_reducible (replace hb2 := nb_tf hb2) | with_reducible (replace hb2 := nb_bf hb2) | skip
    have hpk : inB ds k = false := by rw [inB_at hk2]; exact hb2
    refine wp_skip ?_
    refine ib_n ?_
    refine th_n (hK7 _ _ ?_)
    clear hK7 K7
    refine Sb 25 rfl ?_  -- 4
    refine S_val (Y_move rfl) ?_
    refine S_val (Y_inc rfl rfl (by omega)) ?_
    refine S_val (Y_assign rfl) ?_
    refine S_nl rfl rfl ?_
    refine th_n ?_
    go_roundw  -- e2 of L1
    case rel =>
     refine ⟨?_, GL6⟩
     first | exact ⟨k + 1, _, rfl, by omega, OY⟩ | exact ⟨k + 1, rs1, rfl, by omega, OX.cast (by rw [dropK_no hpk])⟩
    case measure =>
     exact dec_nat (by omega)
  · -- c1F
   replace hb1 := nb_tf hb1
   refine wp_exit ?_
   refine th_x ?_
   try clear GL6
   refine th_x ?_
   refine ib_e ?_
   refine th_n (hK3 _ _ ?_)
   clear hK5 K5 hK3 K3
   refine wp_seq_k fun K9 hK9 => ?_
   refine Sb 25 rfl ?_  -- 7
   refine S_val (Y_loadS Try.underlying32 rfl sz32 rfl (B4.row (by rfl))) ?_  -- l4
   refine S_stM (pre := []) (old := [_, _]) (post := []) (vs := [_, _]) sz32 rfl rfl rfl (by first | rfl | assumption) B2 rfl rfl ?_
   intro w8 m8 X8
   replace B2 := Blk.eq (ys := [_, _]) X8 rfl
   clear X8
   replace G := G.abv m8
   replace hAl := hAl0.grow G
   replace hBl := hBl0.grow G
   replace hCl := hCl0.grow G
   replace OX := OX.md m8
   replace B1 := B1.md m8
   replace B4 := B4.md m8
   have zm8 := m8.size
   refine S_nl rfl rfl ?_
   refine th_n (hK9 _ _ ?_)
   clear hK9 K9
   refine wp_ret ?_
   refine ret_rc (cs := [_, _]) Try.underlying32 rfl sz32 rfl rfl (B2.row (by rfl)) ?_  -- r1
   have hde : dropK h.cells (inB ds) k = dropC h.cells (inB ds) := dropC_ext (fun i hi => by
     by_cases hik : i < k
     · simp [hik]
     · have : inB ds i = false := by unfold inB; rw [List.getElem?_eq_none (by omega)]; rfl
       simp [this])
   exact ⟨_, _, _, _, _, _, rs1, rfl, (dropC_len _ _).symm, rfl, (OX.cast (h2 := dropH h (inB ds)) (by unfold dropH; rw [hde])).weak (fun i hi => by first | omega | (dsimp only at hi; omega)), G⟩
set_option maxHeartbeats 400000 in
set_option maxRecDepth 20000 in
theorem spec_SweepCells2_c (Pr P2 : Nat → Prop) (A B C : Option Addr) (h : LH) (ms : List Bool) (c d e : Nat) (w : World) (hA : RC Pr w A h.cells) (hB : R1 Pr w B (ints h.roots)) (hC : R1 P2 w C (bools ms)) (hz : hsize h ≤ 1048576) (hmz : ms.length ≤ 1048576) :
    Calls Try.prog 40 #[.agg #[.slice A h.cells.length c, .slice B h.roots.length d], .slice C ms.length e] w (Ret fun v w' => ∃ A1 B1 n1 c1 n2 c2 rs, v = .tuple #[.agg #[.slice A1 n1 c1, .slice B1 n2 c2], .int .i64 (sweepV h ms).2] ∧ n1 = (sweepV h ms).1.cells.length ∧ n2 = (sweepV h ms).1.roots.length ∧ XH (fun i => w.heap.size ≤ i) w' 63 3 A1 B1 (sweepV h ms).1 rs c1 c2 ∧ Grow w w') := by
 have hz1 := hsize_cells h
 have hz2 := hsize_roots h
 have hne : (63 : TypeId) ≠ 3 := by decide
 refine enter Try.func40 rfl Try.ntmps40 (L := [_,_,_,_,_,_,_,_,_,_,_,_,_,_,_,_,_,_,_,_,_,_,_,_,_,_,_,_,_,_,_,_,_,_,_,_,_,_,_,_,_,_,_,_,_,_,_,_,_,_,_,_,_,_,_,_,_,_,_,_,_]) rfl ?_
 have G := Mod.refl No w
 have hA0 := hA
 have hB0 := hB
 have hC0 := hC
 refine wp_seq_k fun K1 hK1 => ?_
 refine Sb 61 rfl ?_  -- 0
 refine S_box (cs := [_, _]) rfl rfl ?_
 intro b1 w1 fb1 g1 B1
 have lb1 := B1.lt
 replace hA := hA.grow g1
 replace hB := hB.grow g1
 replace hC := hC.grow g1
 replace G := G.grow g1
 have zg1 := g1.size
 refine S_alloc (cs := [_, _]) zr32 rfl ?_
 intro b2 w2 fb2 g2 B2
 have lb2 := B2.lt
 replace hA := hA.grow g2
 replace hB := hB.grow g2
 replace hC := hC.grow g2
 replace G := G.grow g2
 replace B1 := B1.grow g2
 have zg2 := g2.size
 refine S_val (Y_assign rfl) ?_
 refine S_nl rfl rfl ?_
 refine th_n (hK1 _ _ ?_)
 clear hK1 K1
 refine wp_seq_k fun K2 hK2 => ?_
 refine wp_seq_k fun K3 hK3 => ?_
 refine Sb 61 rfl ?_  -- 1
 refine S_val (Y_loadS Try.underlying32 rfl sz32 rfl (B1.row (by rfl))) ?_  -- l1
 refine S_call rfl en49 (spec_HeapValid_c _ _ _ _ _ _ _ (by assumption) (by assumption) (by omega)) ?_  -- k1 spec.HeapValid
 rintro v3 w3 ⟨rfl, g3⟩
 replace hA := hA.grow g3
 replace hB := hB.grow g3
 replace hC := hC.grow g3
 replace G := G.grow g3
 replace B1 := B1.grow g3
 replace B2 := B2.grow g3
 have zg3 := g3.size
 refine S_val (Y_not rfl) ?_
 refine S_val (Y_move rfl) ?_
 refine S_g 13 rfl (fun hb1 => ?_) (fun hb1 => ?_)  -- g1
 · -- g1T
  first | with_reducible (replace hb1 := nb_nt hb1) | with_reducible (replace hb1 := nb_tt hb1) | with_reducible (replace hb1 := nb_bt hb1) | skip
  refine S_off rfl rfl ?_
  refine S_off rfl rfl ?_
  refine S_off rfl rfl ?_
  refine S_off rfl rfl ?_
  refine S_off rfl rfl ?_
  refine S_off rfl rfl ?_
  refine S_val (Y_pickT rfl rfl) ?_
  refine S_nl rfl rfl ?_
  refine th_n (hK3 _ _ ?_)
  clear hK3 K3
  refine S_ifT rfl ?_
  refine wp_seq_k fun K4 hK4 => ?_
  refine Sb 61 rfl ?_  -- 2
  refine S_val (Y_build (cs := [_, _]) zr32 pc32 rfl rfl) ?_
  refine S_stM (pre := []) (old := [_, _]) (post := []) (vs := [_, _]) sz32 rfl rfl rfl (by first | rfl | assumption) B2 rfl rfl ?_
  intro w4 m4 X4
  replace B2 := Blk.eq (ys := [_, _]) X4 rfl
  clear X4
  replace G := G.abv m4
  replace hA := hA0.grow G
  replace hB := hB0.grow G
  replace hC := hC0.grow G
  replace B1 := B1.md m4
  have zm4 := m4.size
  refine S_val (Y_assign rfl) ?_
  refine S_nl rfl rfl ?_
  refine th_n (hK4 _ _ ?_)
  clear hK4 K4
  refine wp_ret ?_
  refine th_r ?_
  clear hK2 K2
  refine ret_rct (cs := [_, _]) Try.underlying32 rfl sz32 rfl rfl rfl (B2.row (by rfl)) ?_  -- r1
  have hsv := sweepV_f1 (ms := ms) hb1
  exact ⟨_, _, _, _, _, _, [], by rw [hsv], by rw [hsv]; rfl, by rw [hsv]; rfl, by rw [hsv]; exact XH.nil _ _ _ _, G⟩
 · -- g1F
  first | with_reducible (replace hb1 := nb_nf hb1) | with_reducible (replace hb1 := nb_tf hb1) | with_reducible (replace hb1 := nb_bf hb1) | skip
  have va := valid_iff.1 hb1
  have hl := va.leads
  have h40 := va.le
  have hr4 := va.roots4
  refine S_on rfl rfl ?_
  refine S_val (Y_move rfl) ?_
  refine S_on rfl rfl ?_
  refine S_val (Y_len Try.underlying27 rfl) ?_
  refine S_on rfl rfl ?_
  refine S_val (Y_field Try.underlying32 rfl fz32_0 (by decide) rfl) ?_
  refine S_on rfl rfl ?_
  refine S_val (Y_load Try.underlying30 rfl rfl (B1.at (by rfl))) ?_  -- l2
  refine S_on rfl rfl ?_
  refine S_val (Y_len Try.underlying30 rfl) ?_
  refine S_on rfl rfl ?_
  refine S_val (Y_neq rfl rfl) ?_
  refine S_val (Y_pickF rfl rfl) ?_
  refine S_nl rfl rfl ?_
  refine th_n (hK3 _ _ ?_)
  clear hK3 K3
  refine S_if rfl (fun hb2 => ?_) (fun hb2 => ?_)  -- c1
  · -- c1T
   first | with_reducible (replace hb2 := nb_nt hb2) | with_reducible (replace hb2 := nb_tt hb2) | with_reducible (replace hb2 := nb_bt hb2) | skip
   refine wp_seq_k fun K5 hK5 => ?_
   refine Sb 61 rfl ?_  -- 2
   refine S_val (Y_build (cs := [_, _]) zr32 pc32 rfl rfl) ?_
   refine S_stM (pre := []) (old := [_, _]) (post := []) (vs := [_, _]) sz32 rfl rfl rfl (by first | rfl | assumption) B2 rfl rfl ?_
   intro w5 m5 X5
   replace B2 := Blk.eq (ys := [_, _]) X5 rfl
   clear X5
   replace G := G.abv m5
   replace hA := hA0.grow G
   replace hB := hB0.grow G
   replace hC := hC0.grow G
   replace B1 := B1.md m5
   have zm5 := m5.size
   refine S_val (Y_assign rfl) ?_
   refine S_nl rfl rfl ?_
   refine th_n (hK5 _ _ ?_)
   clear hK5 K5
   refine wp_ret ?_
   refine th_r ?_
   clear hK2 K2
   refine ret_rct (cs := [_, _]) Try.underlying32 rfl sz32 rfl rfl rfl (B2.row (by rfl)) ?_  -- r2
   have hsv := sweepV_f2 (h := h) (ms := ms) (by omega)
   exact ⟨_, _, _, _, _, _, [], by rw [hsv], by rw [hsv]; rfl, by rw [hsv]; rfl, by rw [hsv]; exact XH.nil _ _ _ _, G⟩
  · -- c1F
   first | with_reducible (replace hb2 := nb_nf hb2) | with_reducible (replace hb2 := nb_tf hb2) | with_reducible (replace hb2 := nb_bf hb2) | skip
   have hlen : ms.length = h.cells.length := by omega
   refine wp_skip ?_
   refine th_n (hK2 _ _ ?_)
   clear hK2 K2
   refine wp_seq_k fun K6 hK6 => ?_
   refine Sb 61 rfl ?_  -- 3
   refine S_bs0 Try.underlying27 sz4 ?_
   intro b6 w6 fb6 g6 B6
   have lb6 := B6.lt
   replace hA := hA.grow g6
   replace hB := hB.grow g6
   replace hC := hC.grow g6
   replace G := G.grow g6
   replace B1 := B1.grow g6
   replace B2 := B2.grow g6
   have zg6 := g6.size
   refine S_val (Y_assign rfl) ?_
   refine S_nl rfl rfl ?_
   refine th_n (hK6 _ _ ?_)
   clear hK6 K6
   refine wp_seq_k fun K7 hK7 => ?_
   refine Sb 61 rfl ?_  -- 4
   refine S_val (Y_assign rfl) ?_
   refine S_nl rfl rfl ?_
   refine th_n (hK7 _ _ ?_)
   clear hK7 K7
   refine wp_seq_k fun K8 hK8 => ?_
   refine wp_seq_k fun K9 hK9 => ?_
   refine Sb 61 rfl ?_  -- 5
   refine S_val (Y_assign rfl) ?_
   refine S_nl rfl rfl ?_
   refine th_n (hK9 _ _ ?_)
   clear hK9 K9
   refine wp_block ?_
   obtain ⟨wz, hwz⟩ : ∃ x, x = w6.heap.size := ⟨_, rfl⟩
   have O1 : OW (fun i => i = b6 ∨ wz ≤ i) w6 4 1 (some ⟨b6, 0, none⟩) 0 0 (bools []) := OW.of_blk B6 rfl (by decide) (.inl rfl)
   go_loopw [6, 7, 8] (fun u6 u7 u8 wr => (∃ (k cap : Nat) (A1 : Option Addr), u8 = .int .i64 k ∧ u7 = .int .i64 ((cntP (sweepN h ms) k : Nat) : Int) ∧ u6 = .slice A1 k cap ∧ k ≤ ms.length ∧ OW (fun i => i = b6 ∨ wz ≤ i) wr 4 1 A1 k cap (bools ((ms.take k).map (fun b => !b)))) ∧ Mod (fun i => i = b6 ∨ wz ≤ i) w6 wr) (fun u6 u7 u8 wr => ms.length - (intOf u8).toNat)  -- L1
   case atStart =>
    refine ⟨?_, Mod.refl _ _⟩
    exact ⟨0, 0, _, rfl, rfl, rfl, by omega, O1⟩
   case round =>
    obtain ⟨w7, rfl⟩ : ∃ x : World, x = wr := ⟨_, rfl⟩
    obtain ⟨hrel, g7⟩ := hrel
    clear O1
    replace G := G.abv g7
    replace hA := hA0.grow G
    replace hB := hB0.grow G
    replace hC := hC0.grow G
    replace B1 := B1.md g7
    replace B2 := B2.md g7
    have zg7 := g7.size
    obtain ⟨k, cap1, A1, rfl, rfl, rfl, hk, O1⟩ := hrel
    have hcl := cntP_le (sweepN h ms) k
    have GL7 := g7
    refine wp_seq_k fun K10 hK10 => ?_
    refine wp_seq_k fun K11 hK11 => ?_
    refine Sb 61 rfl ?_  -- 6
    refine S_val (Y_move rfl) ?_
    refine S_val (Y_move rfl) ?_
    refine S_val (Y_len Try.underlying27 rfl) ?_
    refine S_val (Y_lss rfl rfl) ?_
    refine S_nl rfl rfl ?_
    refine th_n (hK11 _ _ ?_)
    clear hK11 K11
    refine S_if rfl (fun hb3 => ?_) (fun hb3 => ?_)  -- c2
    · -- c2T
     replace hb3 := nb_tt hb3
     have hk1 : k < ms.length := by omega
     have hk2 : k < h.cells.length := by omega
     obtain ⟨g3, o3, rfl, hp3, hc3⟩ := hC.bool hk1
     obtain ⟨g2, o2, E2, d2, rfl, hp2, cc20, hE20⟩ := hA0.cell hk2
     have cc2 := cc20.grow G
     have hE2 := hE20.grow G
     have htk := List.take_succ_eq_append_getElem hk1
     refine wp_skip ?_
     refine th_n (hK10 _ _ ?_)
     clear hK10 K10
     refine wp_seq_k fun K12 hK12 => ?_
     refine wp_block ?_
     refine wp_seq_k fun K13 hK13 => ?_
     refine Sb 61 rfl ?_  -- 8
     refine S_val (Y_move rfl) ?_
     refine S_val (Y_move rfl) ?_
     refine S_val (Y_move rfl) ?_
     refine S_val (Y_index Try.underlying27 sz4 rfl rfl (by first | assumption | omega)) ?_
     refine S_val (Y_load Try.underlying4 rfl rfl (by first | assumption | exact cc2.at (by rfl) | exact B1.at (by rfl) | exact B2.at (by rfl))) ?_  -- l3
     refine S_val (Y_not rfl) ?_
     refine S_bs1 (cs := [_]) Try.underlying27 zr4 sz4 rfl rfl rfl ?_
     intro b8 w8 fb8 g8 B8
     have lb8 := B8.lt
     replace hA := hA.grow g8
     replace hB := hB.grow g8
     replace hC := hC.grow g8
     replace cc2 := cc2.grow g8
     replace hE2 := hE2.grow g8
     replace O1 := O1.grow g8
     replace G := G.grow g8
     replace GL7 := GL7.grow g8
     replace B1 := B1.grow g8
     replace B2 := B2.grow g8
     have zg8 := g8.size
     refine S_app Try.underlying27 zr4 sz4 by4 rfl rfl O1 rfl (Src.blk B8) (by simp [Value.oneCell']) (by omega) (Pr' := fun i => i = b6 ∨ wz ≤ i) (fun i hi => hi) (by omega) ?_
     intro A9 cap9 w9 X9 m9
     replace O1 := X9
     rw [bools_app] at O1
     clear X9
     replace G := G.abv m9
     replace GL7 := GL7.trn m9
     replace hA := hA0.grow G
     replace hB := hB0.grow G
     replace hC := hC0.grow G
     replace cc2 := cc20.grow G
     replace hE2 := hE20.grow G
     replace B1 := B1.md m9
     replace B2 := B2.md m9
     have zm9 := m9.size
     obtain ⟨g4, o4, e4, hp4, hc4⟩ := hC.bool hk1
     cases e4
     refine S_val (Y_assign rfl) ?_
     refine S_nl rfl rfl ?_
     refine th_n (hK13 _ _ ?_)
     clear hK13 K13
     refine wp_seq_k fun K14 hK14 => ?_
     refine Sb 61 rfl ?_  -- 9
     refine S_val (Y_move rfl) ?_
     refine S_val (Y_move rfl) ?_
     refine S_val (Y_index Try.underlying27 sz4 rfl rfl (by first | assumption | omega)) ?_
     refine S_val (Y_load Try.underlying4 rfl rfl (by first | assumption | exact cc2.at (by rfl) | exact B1.at (by rfl) | exact B2.at (by rfl))) ?_  -- l4
     refine S_val (Y_not rfl) ?_
     refine S_val (Y_move rfl) ?_
     refine S_g 42 rfl (fun hb4 => ?_) (fun hb4 => ?_)  -- g2
     · -- g2T
      first | with_reducible (replace hb4 := nb_nt hb4) | with_reducible (replace hb4 := nb_tt hb4) | with_reducible (replace hb4 := nb_bt hb4) | skip
      refine S_on rfl rfl ?_
      refine S_val (Y_field Try.underlying32 rfl fz32_0 (by decide) rfl) ?_
      refine S_on rfl rfl ?_
      refine S_val (Y_load Try.underlying30 rfl rfl (B1.at (by rfl))) ?_  -- l5
      refine S_on rfl rfl ?_
      refine S_val (Y_move rfl) ?_
      refine S_on rfl rfl ?_
      refine S_val (Y_index Try.underlying30 sz63 rfl rfl (by first | assumption | omega)) ?_
      refine S_on rfl rfl ?_
      refine S_val (Y_field Try.underlying63 rfl fz63_0 (by decide) rfl) ?_
      refine S_on rfl rfl ?_
      refine S_val (Y_load Try.underlying4 rfl rfl (by first | assumption | exact cc2.at (by rfl) | exact B1.at (by rfl) | exact B2.at (by rfl))) ?_  -- l6
      refine S_val (Y_pickT rfl rfl) ?_
      refine S_nl rfl rfl ?_
      refine th_n (hK14 _ _ ?_)
      clear hK14 K14
      refine S_if rfl (fun hb5 => ?_) (fun hb5 => ?_)  -- c3
      · -- c3T
       first | with_reducible (replace hb5 := nb_nt hb5) | with_reducible (replace hb5 := nb_tt hb5) | with_reducible (replace hb5 := nb_bt hb5) | skip
       have hpn : sweepN h ms k = true := by unfold sweepN sweepP; rw [inB_at hk1, hb4, usedAt_at hk2, hb5]; rfl
       refine Sb 61 rfl ?_  -- 10
       refine S_val (Y_move rfl) ?_
       refine S_val (Y_inc rfl rfl (by omega)) ?_
       refine S_val (Y_assign rfl) ?_
       refine S_nl rfl rfl ?_
       refine ib_n ?_
       refine th_n (hK12 _ _ ?_)
       clear hK12 K12
       refine Sb 61 rfl ?_  -- 7
       refine S_val (Y_move rfl) ?_
       refine S_val (Y_inc rfl rfl (by omega)) ?_
       refine S_val (Y_assign rfl) ?_
       refine S_nl rfl rfl ?_
       refine th_n ?_
       go_roundw  -- e1 of L1
       case rel =>
        refine ⟨?_, GL7⟩
        first | exact ⟨k + 1, _, _, rfl, by rw [cntP_no hpn], rfl, by omega, by rw [htk, List.map_append]; exact O1⟩ | exact ⟨k + 1, _, _, rfl, by rw [cntP_yes hpn], rfl, by omega, by rw [htk, List.map_append]; exact O1⟩
       case measure =>
        exact dec_nat (by omega)
      · -- c3F
       first | with_reducible (replace hb5 := nb_nf hb5) | with_reducible (replace hb5 := nb_tf hb5) | with_reducible (replace hb5 := nb_bf hb5) | skip
       have hpn : sweepN h ms k = false := by unfold sweepN sweepP; rw [usedAt_at hk2, hb5]; rfl
       refine wp_skip ?_
       refine ib_n ?_
       refine th_n (hK12 _ _ ?_)
       clear hK12 K12
       refine Sb 61 rfl ?_  -- 7
       refine S_val (Y_move rfl) ?_
       refine S_val (Y_inc rfl rfl (by omega)) ?_
       refine S_val (Y_assign rfl) ?_
       refine S_nl rfl rfl ?_
       refine th_n ?_
       go_roundw  -- e2 of L1
       case rel =>
        refine ⟨?_, GL7⟩
        first | exact ⟨k + 1, _, _, rfl, by rw [cntP_no hpn], rfl, by omega, by rw [htk, List.map_append]; exact O1⟩ | exact ⟨k + 1, _, _, rfl, by rw [cntP_yes hpn], rfl, by omega, by rw [htk, List.map_append]; exact O1⟩
       case measure =>
        exact dec_nat (by omega)
     · -- g2F
      first | with_reducible (replace hb4 := nb_nf hb4) | with_reducible (replace hb4 := nb_tf hb4) | with_reducible (replace hb4 := nb_bf hb4) | skip
      have hpn : sweepN h ms k = false := by unfold sweepN sweepP; rw [inB_at hk1, hb4]; simp
      refine S_off rfl rfl ?_
      refine S_off rfl rfl ?_
      refine S_off rfl rfl ?_
      refine S_off rfl rfl ?_
      refine S_off rfl rfl ?_
      refine S_off rfl rfl ?_
      refine S_val (Y_pickF rfl rfl) ?_
      refine S_nl rfl rfl ?_
      refine th_n (hK14 _ _ ?_)
      clear hK14 K14
      refine S_ifF rfl ?_
      refine wp_skip ?_
      refine ib_n ?_
      refine th_n (hK12 _ _ ?_)
      clear hK12 K12
      refine Sb 61 rfl ?_  -- 7
      refine S_val (Y_move rfl) ?_
      refine S_val (Y_inc rfl rfl (by omega)) ?_
      refine S_val (Y_assign rfl) ?_
      refine S_nl rfl rfl ?_
      refine th_n ?_
      go_roundw  -- e3 of L1
      case rel =>
       refine ⟨?_, GL7⟩
       first | exact ⟨k + 1, _, _, rfl, by rw [cntP_no hpn], rfl, by omega, by rw [htk, List.map_append]; exact O1⟩ | exact ⟨k + 1, _, _, rfl, by rw [cntP_yes hpn], rfl, by omega, by rw [htk, List.map_append]; exact O1⟩
      case measure =>
       exact dec_nat (by omega)
    · -- c2F
     replace hb3 := nb_tf hb3
     rw [List.take_of_length_le (by omega)] at O1
     have hkq : k = (ms.map (fun b => !b)).length := by rw [List.length_map]; omega
     subst hkq
     replace O1 := O1.lt
     have hD := O1.r1
     refine wp_exit ?_
     refine th_x ?_
     try clear GL7
     refine th_x ?_
     refine ib_e ?_
     refine th_n (hK8 _ _ ?_)
     clear hK10 K10 hK8 K8
     refine wp_seq_k fun K15 hK15 => ?_
     refine Sb 61 rfl ?_  -- 11
     refine S_val (Y_loadS Try.underlying32 rfl sz32 rfl (B1.row (by rfl))) ?_  -- l7
     refine S_val (Y_move rfl) ?_
     refine S_call rfl en89 (spec_l11Drop2_c _ _ _ _ _ _ (ms.map (fun b => !b)) _ _ _ _ (by assumption) (by assumption) hD (by omega) (by rw [List.length_map]; omega)) ?_  -- k2 spec.l11Drop
     rintro v10 w10 ⟨A10, B10, n110, c110, n210, c210, rs10, rfl, hn110, hn210, O10, g10⟩
     replace hA := hA.grow g10
     replace hB := hB.grow g10
     replace hC := hC.grow g10
     replace O1 := O1.grow g10
     replace hD := hD.grow g10
     replace G := G.grow g10
     replace B1 := B1.grow g10
     replace B2 := B2.grow g10
     have zg10 := g10.size
     rw [drop_not hlen] at hn110 hn210 O10
     subst hn110
     subst hn210
     obtain ⟨AH, rfl⟩ : ∃ x, x = A10 := ⟨_, rfl⟩
     obtain ⟨BH, rfl⟩ : ∃ x, x = B10 := ⟨_, rfl⟩
     obtain ⟨cH, rfl⟩ : ∃ x, x = c110 := ⟨_, rfl⟩
     obtain ⟨dH, rfl⟩ : ∃ x, x = c210 := ⟨_, rfl⟩
     obtain ⟨rsH, rfl⟩ : ∃ x, x = rs10 := ⟨_, rfl⟩
     have OX := O10.lt
     have hXA := OX.rc
     have hXB := OX.r1
     refine S_alloc (cs := [_, _]) zr32 rfl ?_
     intro b11 w11 fb11 g11 B11
     have lb11 := B11.lt
     replace hA := hA.grow g11
     replace hB := hB.grow g11
     replace hC := hC.grow g11
     replace O1 := O1.grow g11
     replace hD := hD.grow g11
     replace OX := OX.grow g11
     replace hXA := hXA.grow g11
     replace hXB := hXB.grow g11
     replace G := G.grow g11
     replace B1 := B1.grow g11
     replace B2 := B2.grow g11
     have zg11 := g11.size
     refine S_stM (pre := []) (old := [_, _]) (post := []) (vs := [_, _]) sz32 rfl rfl rfl (by first | rfl | assumption) B11 rfl rfl ?_
     intro w12 m12 X12
     replace B11 := Blk.eq (ys := [_, _]) X12 rfl
     clear X12
     replace G := G.abv m12
     replace hA := hA0.grow G
     replace hB := hB0.grow G
     replace hC := hC0.grow G
     replace O1 := O1.md m12
     replace hD := hD.md m12
     replace OX := OX.md m12
     replace hXA := hXA.md m12
     replace hXB := hXB.md m12
     replace B1 := B1.md m12
     replace B2 := B2.md m12
     have zm12 := m12.size
     refine S_nl rfl rfl ?_
     refine th_n (hK15 _ _ ?_)
     clear hK15 K15
     refine wp_seq_k fun K16 hK16 => ?_
     refine wp_seq_k fun K17 hK17 => ?_
     refine Sb 61 rfl ?_  -- 12
     refine S_val (Y_loadS Try.underlying32 rfl sz32 rfl (B11.row (by rfl))) ?_  -- l8
     refine S_call rfl en49 (spec_HeapValid_c _ _ _ _ _ _ _ hXA hXB (by have := drop_small va (sweepP ms); omega)) ?_  -- k3 spec.HeapValid
     rintro v13 w13 ⟨rfl, g13⟩
     replace hA := hA.grow g13
     replace hB := hB.grow g13
     replace hC := hC.grow g13
     replace O1 := O1.grow g13
     replace hD := hD.grow g13
     replace OX := OX.grow g13
     replace hXA := hXA.grow g13
     replace hXB := hXB.grow g13
     replace G := G.grow g13
     replace B1 := B1.grow g13
     replace B2 := B2.grow g13
     replace B11 := B11.grow g13
     have zg13 := g13.size
     refine S_val (Y_not rfl) ?_
     refine S_nl rfl rfl ?_
     refine th_n (hK17 _ _ ?_)
     clear hK17 K17
     refine S_if rfl (fun hb4 => ?_) (fun hb4 => ?_)  -- c4
     · -- c4T
      first | with_reducible (replace hb4 := nb_nt hb4) | with_reducible (replace hb4 := nb_tt hb4) | with_reducible (replace hb4 := nb_bt hb4) | skip
      refine wp_seq_k fun K18 hK18 => ?_
      refine Sb 61 rfl ?_  -- 13
      refine S_val (Y_build (cs := [_, _]) zr32 pc32 rfl rfl) ?_
      refine S_stM (pre := []) (old := [_, _]) (post := []) (vs := [_, _]) sz32 rfl rfl rfl (by first | rfl | assumption) B2 rfl rfl ?_
      intro w14 m14 X14
      replace B2 := Blk.eq (ys := [_, _]) X14 rfl
      clear X14
      replace G := G.abv m14
      replace hA := hA0.grow G
      replace hB := hB0.grow G
      replace hC := hC0.grow G
      replace O1 := O1.md m14
      replace hD := hD.md m14
      replace OX := OX.md m14
      replace hXA := hXA.md m14
      replace hXB := hXB.md m14
      replace B1 := B1.md m14
      replace B11 := B11.md m14
      have zm14 := m14.size
      refine S_val (Y_assign rfl) ?_
      refine S_nl rfl rfl ?_
      refine th_n (hK18 _ _ ?_)
      clear hK18 K18
      refine wp_ret ?_
      refine th_r ?_
      clear hK16 K16
      refine ret_rct (cs := [_, _]) Try.underlying32 rfl sz32 rfl rfl rfl (B2.row (by rfl)) ?_  -- r3
      have hsv := sweepV_f3 hb4
      exact ⟨_, _, _, _, _, _, [], by rw [hsv], by rw [hsv]; rfl, by rw [hsv]; rfl, by rw [hsv]; exact XH.nil _ _ _ _, G⟩
     · -- c4F
      first | with_reducible (replace hb4 := nb_nf hb4) | with_reducible (replace hb4 := nb_tf hb4) | with_reducible (replace hb4 := nb_bf hb4) | skip
      refine wp_skip ?_
      refine th_n (hK16 _ _ ?_)
      clear hK16 K16
      refine wp_seq_k fun K19 hK19 => ?_
      refine Sb 61 rfl ?_  -- 14
      refine S_val (Y_loadS Try.underlying32 rfl sz32 rfl (B11.row (by rfl))) ?_  -- l9
      refine S_val (Y_move rfl) ?_
      refine S_stM (pre := []) (old := [_, _]) (post := []) (vs := [_, _]) sz32 rfl rfl rfl (by first | rfl | assumption) B2 rfl rfl ?_
      intro w15 m15 X15
      replace B2 := Blk.eq (ys := [_, _]) X15 rfl
      clear X15
      replace G := G.abv m15
      replace hA := hA0.grow G
      replace hB := hB0.grow G
      replace hC := hC0.grow G
      replace O1 := O1.md m15
      replace hD := hD.md m15
      replace OX := OX.md m15
      replace hXA := hXA.md m15
      replace hXB := hXB.md m15
      replace B1 := B1.md m15
      replace B11 := B11.md m15
      have zm15 := m15.size
      refine S_val (Y_assign rfl) ?_
      refine S_nl rfl rfl ?_
      refine th_n (hK19 _ _ ?_)
      clear hK19 K19
      refine wp_ret ?_
      refine ret_rct (cs := [_, _]) Try.underlying32 rfl sz32 rfl rfl rfl (B2.row (by rfl)) ?_  -- r4
      have hsv := sweepV_t hb1 hlen hb4
      exact ⟨AH, BH, _, cH, _, dH, rsH, by rw [hsv, List.length_map, hlen], by rw [hsv], by rw [hsv], by rw [hsv]; exact OX.weak (fun i hi => by omega), G⟩
set_option maxHeartbeats 400000 in
set_option maxRecDepth 20000 in
theorem spec_CollectSweep2_c (Pr : Nat → Prop) (A B : Option Addr) (h : LH) (c d : Nat) (w : World) (hA : RC Pr w A h.cells) (hB : R1 Pr w B (ints h.roots)) (hz : hsize h ≤ 1048576) :
    Calls Try.prog 44 #[.agg #[.slice A h.cells.length c, .slice B h.roots.length d]] w (Ret fun v w' => ∃ A1 B1 n1 c1 n2 c2 rs, v = .tuple #[.agg #[.slice A1 n1 c1, .slice B1 n2 c2], .int .i64 (sweepV h (reachV h)).2] ∧ n1 = (sweepV h (reachV h)).1.cells.length ∧ n2 = (sweepV h (reachV h)).1.roots.length ∧ XH (fun i => w.heap.size ≤ i) w' 63 3 A1 B1 (sweepV h (reachV h)).1 rs c1 c2 ∧ Grow w w') := by
 have hz1 := hsize_cells h
 have hz2 := hsize_roots h
 have hne : (63 : TypeId) ≠ 3 := by decide
 have hrl := reachV_le h
 refine enter Try.func44 rfl Try.ntmps44 (L := [_,_,_,_,_,_,_,_,_,_]) rfl ?_
 have G := Mod.refl No w
 have hA0 := hA
 have hB0 := hB
 refine wp_seq_k fun K1 hK1 => ?_
 refine Sb 10 rfl ?_  -- 0
 refine S_box (cs := [_, _]) rfl rfl ?_
 intro b1 w1 fb1 g1 B1
 have lb1 := B1.lt
 replace hA := hA.grow g1
 replace hB := hB.grow g1
 replace G := G.grow g1
 have zg1 := g1.size
 refine S_alloc (cs := [_, _]) zr32 rfl ?_
 intro b2 w2 fb2 g2 B2
 have lb2 := B2.lt
 replace hA := hA.grow g2
 replace hB := hB.grow g2
 replace G := G.grow g2
 replace B1 := B1.grow g2
 have zg2 := g2.size
 refine S_val (Y_assign rfl) ?_
 refine S_nl rfl rfl ?_
 refine th_n (hK1 _ _ ?_)
 clear hK1 K1
 refine wp_seq_k fun K2 hK2 => ?_
 refine D_start 8 10 (fun w => Mod (fun i => i = b2) w) follows rfl rfl ?_  -- d1 r1
 intro w3 g3
 replace hA := hA.grow g3
 replace hB := hB.grow g3
 replace G := G.grow g3
 replace B1 := B1.grow g3
 replace B2 := B2.grow g3
 have zg3 := g3.size
 have GS3 := Mod.refl (fun i => i = b2) w3
 refine Dq (i := 0) rfl GS3 (fun _ hs => Y_loadS Try.underlying32 rfl sz32 rfl (by first | exact CellsAt.mod (B1.row (by rfl)) hs (by intro h; first | omega | (dsimp only at h; omega)))) ?_
 refine Dq (i := 1) rfl GS3 (fun _ hs => Y_loadS Try.underlying32 rfl sz32 rfl (by first | exact CellsAt.mod (B1.row (by rfl)) hs (by intro h; first | omega | (dsimp only at h; omega)))) ?_
 refine D_1 (i := 2) (by kernel_rfl) ?_
 refine E_call rfl rfl en92 (spec_Reachable_c _ _ _ _ _ _ _ (by assumption) (by assumption) (by omega)) ?_  -- k1 spec.Reachable
 rintro v4 w4 ⟨A4, q4, cap4, rfl, hq4, O4, g4⟩
 replace hA := hA.grow g4
 replace hB := hB.grow g4
 replace G := G.grow g4
 replace GS3 := GS3.grow g4
 replace B1 := B1.grow g4
 replace B2 := B2.grow g4
 have zg4 := g4.size
 subst hq4
 have OR := O4.lt
 have hR := OR.r1
 refine ⟨GS3, ?_⟩
 refine D_1 (i := 3) (by kernel_rfl) ?_
 refine E_call rfl rfl en40 (spec_SweepCells2_c _ _ _ _ _ _ (reachV h) _ _ _ _ (by assumption) (by assumption) hR (by omega) (by omega)) ?_  -- k2 spec.SweepCells
 rintro v5 w5 ⟨A5, B5, n15, c15, n25, c25, rs5, rfl, hn15, hn25, O5, g5⟩
 replace hA := hA.grow g5
 replace hB := hB.grow g5
 replace hR := hR.grow g5
 replace G := G.grow g5
 replace GS3 := GS3.grow g5
 replace B1 := B1.grow g5
 replace B2 := B2.grow g5
 have zg5 := g5.size
 subst hn15
 subst hn25
 obtain ⟨AH, rfl⟩ : ∃ x, x = A5 := ⟨_, rfl⟩
 obtain ⟨BH, rfl⟩ : ∃ x, x = B5 := ⟨_, rfl⟩
 obtain ⟨cH, rfl⟩ : ∃ x, x = c15 := ⟨_, rfl⟩
 obtain ⟨dH, rfl⟩ : ∃ x, x = c25 := ⟨_, rfl⟩
 obtain ⟨rsH, rfl⟩ : ∃ x, x = rs5 := ⟨_, rfl⟩
 have OX := O5.lt
 refine ⟨GS3, ?_⟩
 refine Dq (i := 4) rfl GS3 (fun _ _ => Y_extract rfl rfl) ?_
 refine Dq (i := 5) rfl GS3 (fun _ _ => Y_extract rfl rfl) ?_
 refine D_1 (i := 6) (by kernel_rfl) ?_
 refine E_stM (pre := []) (old := [_, _]) (post := []) (vs := [_, _]) (i := 6) rfl sz32 rfl rfl rfl (by first | rfl | assumption) B2 rfl rfl ?_
 intro w6 m6 X6
 replace B2 := Blk.eq (ys := [_, _]) X6 rfl
 clear X6
 replace G := G.abv m6
 replace GS3 := GS3.trn m6
 replace hA := hA0.grow G
 replace hB := hB0.grow G
 replace hR := hR.md m6
 replace OX := OX.md m6
 replace B1 := B1.md m6
 have zm6 := m6.size
 refine ⟨GS3, ?_⟩
 refine Dq (i := 7) rfl GS3 (fun _ _ => Y_assign rfl) ?_
 refine D_en (by kernel_rfl) rfl rfl ?_
 refine th_n (hK2 _ _ ?_)
 clear hK2 K2
 refine wp_ret ?_
 refine ret_rct (cs := [_, _]) Try.underlying32 rfl sz32 rfl rfl rfl (B2.row (by rfl)) ?_  -- r1
 exact ⟨_, _, _, _, _, _, _, rfl, rfl, rfl, OX.weak (fun i hi => by omega), G⟩
end
end Go.Proofs.Ytikgflhepclfgac
