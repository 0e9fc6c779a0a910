/-
  Walks through functions of the program and the reference, and the plain laws behind them: what one claim needs of them.
  Conditions: those that each theorem states.
-/
import Derived.Test.YtikgflhepclfgabQa2
set_option linter.unusedVariables false
set_option linter.unusedSimpArgs false
namespace Go.Proofs.Ytikgflhepclfgab
/-! Gat -/
section
open Go
/-- o lists the cells that can be reached, each once. -/
structure Cov (h : LH) (o : List Int) : Prop where
  v : Valid h
  bnd : Bnd h.cells.length o
  mem : ∀ n : Nat, (n : Int) ∈ o ↔ rB h n = true
section
variable {h : LH} {o : List Int}
theorem Cov.order (v : Valid h) : Cov h (orderL h.cells h.roots nn) := ⟨v, order_bnd v, fun _ => rB_mem.symm⟩
theorem Cov.slide (v : Valid h) : Cov h (slideL h) := ⟨v, selL_bnd _ _, fun n => by
  unfold slideL
  rw [selL_mem]
  constructor
  · rintro ⟨m, e, _, hm⟩
    have : n = m := by exact Int.ofNat.inj e
    subst this
    exact hm
  · intro hn
    exact ⟨n, rfl, rB_lt v hn, hn⟩⟩
/-- A root, or a reference of a cell that can be reached. -/
def Near (h : LH) (x : Int) : Prop := x ∈ h.roots ∨ ∃ m : Nat, rB h m = true ∧ x ∈ refsOf h.cells m
theorem Cov.near (c : Cov h o) {x : Int} (hx : Near h x) : nn x = true ↔ x ∈ o := by
  constructor
  · intro h0
    obtain ⟨n, rfl⟩ := Int.eq_ofNat_of_zero_le (nn_pos h0)
    rcases hx with hx | ⟨m, hm, hx⟩
    · exact (c.mem n).2 (rB_root c.v hx)
    · exact (c.mem n).2 (rB_step c.v hm hx)
  · intro hm
    exact nn_of (c.bnd.2 x hm).1
theorem nameIn_inj {o : List Int} {x y : Int} (hx : x ∈ o) (hy : y ∈ o) (e : nameIn o x = nameIn o y) : x = y := by
  unfold nameIn at e
  rw [if_pos hx, if_pos hy] at e
  have e2 : o.idxOf x = o.idxOf y := by omega
  have h1 := List.getElem_idxOf (List.idxOf_lt_length_of_mem hx)
  have h2 := List.getElem_idxOf (List.idxOf_lt_length_of_mem hy)
  rw [← h1, ← h2]
  simp only [e2]
theorem nameIn_in {o : List Int} {x : Int} (hx : x ∈ o) : ∃ k : Nat, nameIn o x = (k : Int) ∧ ∃ hk : k < o.length, o[k] = x := by
  refine ⟨o.idxOf x, if_pos hx, List.idxOf_lt_length_of_mem hx, List.getElem_idxOf _⟩
theorem nn_name {o : List Int} {x : Int} : nn (nameIn o x) = true ↔ x ∈ o := by
  constructor
  · intro h0
    by_cases hx : x ∈ o
    · exact hx
    · rw [nameIn_no hx] at h0
      exact absurd h0 (by decide)
  · intro hx
    obtain ⟨k, e, _⟩ := nameIn_in hx
    rw [e]
    exact nn_nat k
theorem gath_len (h : LH) (o : List Int) : (gathH h o).cells.length = o.length := by simp [gathH]
theorem gath_cell (c : Cov h o) {k : Nat} (hk : k < o.length) : ∃ n : Nat, o[k] = (n : Int) ∧ ∃ hn : n < h.cells.length, rB h n = true ∧ (gathH h o).cells[k]'(by rw [gath_len]; exact hk) = ⟨true, h.cells[n].data, h.cells[n].refs.map (nameIn o)⟩ := by
  obtain ⟨n, hn, hN, _⟩ := bnd_at c.bnd hk
  refine ⟨n, hn, hN, (c.mem n).1 (by rw [← hn]; exact List.getElem_mem hk), ?_⟩
  have : (gathH h o).cells[k]'(by rw [gath_len]; exact hk) = gcell h.cells o o[k] := by simp [gathH]
  rw [this, hn, gcell_at hN]
theorem gath_refs (c : Cov h o) {x : Int} (hx : x ∈ o) : refsOf (gathH h o).cells (nameIn o x).toNat = (refsOf h.cells x.toNat).map (nameIn o) := by
  obtain ⟨k, e, hk, ek⟩ := nameIn_in hx
  obtain ⟨n, hn, hN, _, hc⟩ := gath_cell c hk
  rw [e, Int.toNat_natCast, refsOf_at (by rw [gath_len]; exact hk), hc, ← ek, hn, Int.toNat_natCast, refsOf_at hN]
theorem gath_meet1 (c : Cov h o) {s : List Int} {x : Int} (hs : ∀ y ∈ s, y ∈ o) (hx : Near h x) : meet1 nn (s.map (nameIn o)) (nameIn o x) = (meet1 nn s x).map (nameIn o) := by
  by_cases ho : x ∈ o
  · have h1 := nn_name.2 ho
    have h2 := (c.near hx).2 ho
    by_cases hm : x ∈ s
    · rw [meet1_old hm, meet1_old (List.mem_map_of_mem hm)]
    · rw [meet1_new h2 hm, meet1_new h1, List.map_append]
      · rfl
      · intro hc
        obtain ⟨y, hy, e⟩ := List.mem_map.1 hc
        rw [nameIn_inj (hs y hy) ho e] at hy
        exact hm hy
  · have h1 : nn (nameIn o x) = false := by
      cases hn : nn (nameIn o x) with
      | false => rfl
      | true => exact absurd (nn_name.1 hn) ho
    have h2 : nn x = false := by
      cases hn : nn x with
      | false => rfl
      | true => exact absurd ((c.near hx).1 hn) ho
    rw [meet1_not h1, meet1_not h2]
theorem meet1_sub (c : Cov h o) {s : List Int} {x : Int} (hs : ∀ y ∈ s, y ∈ o) (hx : Near h x) : ∀ y ∈ meet1 nn s x, y ∈ o := fun y hy => by
  rcases meet1_mem.1 hy with hy | ⟨rfl, hy⟩
  · exact hs y hy
  · exact (c.near hx).1 hy
theorem gath_meet (c : Cov h o) : ∀ {xs s : List Int}, (∀ y ∈ s, y ∈ o) → (∀ x ∈ xs, Near h x) → meet nn (s.map (nameIn o)) (xs.map (nameIn o)) = (meet nn s xs).map (nameIn o)
  | [], _, _, _ => rfl
  | x :: xs, s, hs, hx => by
    have := gath_meet c (xs := xs) (s := meet1 nn s x) (meet1_sub c hs (hx x (by simp))) (fun y hy => hx y (by simp [hy]))
    unfold meet at this ⊢
    rw [List.map_cons, List.foldl_cons, List.foldl_cons, gath_meet1 c hs (hx x (by simp)), this]
theorem meet_sub (c : Cov h o) : ∀ {xs s : List Int}, (∀ y ∈ s, y ∈ o) → (∀ x ∈ xs, Near h x) → ∀ y ∈ meet nn s xs, y ∈ o
  | [], _, hs, _ => hs
  | x :: xs, s, hs, hx => meet_sub c (xs := xs) (s := meet1 nn s x) (meet1_sub c hs (hx x (by simp))) (fun y hy => hx y (by simp [hy]))
theorem near_of (c : Cov h o) {x : Int} (hx : x ∈ o) : ∀ y ∈ refsOf h.cells x.toNat, Near h y := fun y hy => by
  obtain ⟨n, rfl⟩ := Int.eq_ofNat_of_zero_le (c.bnd.2 x hx).1
  exact .inr ⟨n, (c.mem n).1 hx, by simpa using hy⟩
theorem gath_bfs (c : Cov h o) : ∀ (f i : Nat) (s : List Int), (∀ y ∈ s, y ∈ o) → bfs (gathH h o).cells nn f i (s.map (nameIn o)) = (bfs h.cells nn f i s).map (nameIn o)
  | 0, _, _, _ => rfl
  | f + 1, i, s, hs => by
    unfold bfs
    rw [List.getElem?_map]
    cases hx : s[i]? with
    | none => rfl
    | some x =>
      have ho := hs x (List.mem_of_getElem? hx)
      simp only [Option.map_some]
      rw [gath_refs c ho, gath_meet c hs (near_of c ho)]
      exact gath_bfs c f (i + 1) _ (meet_sub c hs (near_of c ho))
theorem bfs_fuel {cs : List LC} {ok : Int → Bool} : ∀ (f g i : Nat) (s : List Int), (bfs cs ok f i s).length ≤ i + f → bfs cs ok (f + g) i s = bfs cs ok f i s
  | 0, g, i, s, h => by
    have h' : s.length ≤ i := h
    rw [bfs_end h', bfs_end h']
  | f + 1, g, i, s, h => by
    rw [show f + 1 + g = f + g + 1 by omega]
    unfold bfs at h ⊢
    cases hx : s[i]? with
    | none => rfl
    | some x =>
      rw [hx] at h
      exact bfs_fuel f g (i + 1) _ (by have h2 : (bfs cs ok f (i + 1) (meet ok s (refsOf cs x.toNat))).length ≤ i + (f + 1) := h; omega)
theorem gath_leads (c : Cov h o) : Leads (gathH h o).cells (gathH h o).roots nn := by
  refine ⟨fun x hx h0 => ?_, fun m x hx h0 => ?_⟩
  · obtain ⟨y, _, rfl⟩ := List.mem_map.1 (show x ∈ h.roots.map (nameIn o) from hx)
    rw [gath_len]
    exact ⟨nn_pos h0, nameIn_lt y⟩
  · by_cases hm : m < (gathH h o).cells.length
    · obtain ⟨n, _, hN, _, hc⟩ := gath_cell c (k := m) (by rw [gath_len] at hm; exact hm)
      rw [refsOf_at hm, hc] at hx
      obtain ⟨y, _, rfl⟩ := List.mem_map.1 hx
      rw [gath_len]
      exact ⟨nn_pos h0, nameIn_lt y⟩
    · simp [refsOf, List.getElem?_eq_none (by omega : (gathH h o).cells.length ≤ m)] at hx
theorem gath_order (c : Cov h o) : orderL (gathH h o).cells (gathH h o).roots nn = (orderL h.cells h.roots nn).map (nameIn o) := by
  have hle : o.length ≤ h.cells.length := c.bnd.len
  have hb := orderL_bnd (gath_leads c)
  have hl := hb.len
  have e : orderL (gathH h o).cells (gathH h o).roots nn = bfs (gathH h o).cells nn h.cells.length 0 (meet nn [] (gathH h o).roots) := by
    have hf := bfs_fuel (cs := (gathH h o).cells) (ok := nn) (gathH h o).cells.length (h.cells.length - o.length) 0 (meet nn [] (gathH h o).roots) (by rw [Nat.zero_add]; exact hl)
    rw [gath_len] at hf
    rw [show o.length + (h.cells.length - o.length) = h.cells.length by omega] at hf
    unfold orderL
    rw [gath_len, hf]
  rw [e]
  have hm : meet nn [] (gathH h o).roots = (meet nn [] h.roots).map (nameIn o) := gath_meet c (s := []) (by simp) (fun x hx => .inl hx)
  rw [hm]
  exact gath_bfs c _ _ _ (meet_sub c (by simp) (fun x hx => .inl hx))
theorem sub_order (c : Cov h o) {x : Int} (hx : x ∈ o) : x ∈ orderL h.cells h.roots nn := by
  obtain ⟨n, rfl⟩ := Int.eq_ofNat_of_zero_le (c.bnd.2 x hx).1
  exact rB_mem.1 ((c.mem n).1 hx)
/-- Every cell of the gathered heap can be reached. -/
theorem gath_all (c : Cov h o) {k : Nat} (hk : k < o.length) : rB (gathH h o) k = true := by
  rw [rB_mem, gath_order c]
  have hm : o[k] ∈ o := List.getElem_mem hk
  have : nameIn o o[k] = (k : Int) := nameIn_self c.bnd hk
  rw [← this]
  exact List.mem_map_of_mem (sub_order c hm)
theorem leads_name (c : Cov h o) (x : Int) : leadsB (gathH h o).cells (nameIn o x) = true := by
  by_cases hx : x ∈ o
  · obtain ⟨k, e, hk, _⟩ := nameIn_in hx
    obtain ⟨n, _, hN, _, hc⟩ := gath_cell c hk
    rw [e, leadsB_at (by rw [gath_len]; exact hk), hc]
  · rw [nameIn_no hx]
    exact leadsB_m1 _
theorem gath_valid (c : Cov h o) : Valid (gathH h o) := by
  have hv := c.v
  have hle := c.bnd.len
  have h40 := hv.le
  refine valid_iff.1 ?_
  unfold validB
  rw [decide_eq_true_eq]
  refine ⟨by rw [gath_len]; omega, by show (h.roots.map (nameIn o)).length = 4; rw [List.length_map]; exact hv.roots4, ?_, ?_⟩
  · rw [List.all_eq_true]
    intro x hx
    obtain ⟨k, hk, rfl⟩ := List.getElem_of_mem hx
    have hk2 := hk
    rw [gath_len] at hk2
    obtain ⟨n, _, hN, hr, hc⟩ := gath_cell c hk2
    rw [hc]
    refine okB_t ((okP_u rfl).2 ?_)
    have hu := rB_used hv hr
    rw [usedAt_at hN] at hu
    have hok : okB h.cells h.cells[n] = true := by
      have := valid_iff.2 hv
      unfold validB at this
      rw [decide_eq_true_eq] at this
      exact List.all_eq_true.1 this.2.2.1 _ (List.getElem_mem hN)
    have hok2 := (okP_u hu).1 (of_decide_eq_true hok)
    refine ⟨?_, hok2.2.1, hok2.2.2.1, by rw [List.length_map]; exact hok2.2.2.2⟩
    rw [List.all_eq_true]
    intro y hy
    obtain ⟨z, _, rfl⟩ := List.mem_map.1 hy
    exact leads_name c z
  · rw [List.all_eq_true]
    intro y hy
    obtain ⟨z, _, rfl⟩ := List.mem_map.1 (show y ∈ h.roots.map (nameIn o) from hy)
    exact leads_name c z
end
end
/-! Hof -/
section
open Go
theorem cntP_sel (N : Nat) (p : Nat → Bool) : (selL N p).length = cntP p N := by
  unfold selL cntP
  rw [List.length_map, List.countP_eq_length_filter]
theorem order_cnt {h : LH} (v : Valid h) : (orderL h.cells h.roots nn).length = cntP (rB h) h.cells.length := by
  rw [← cntP_sel]
  exact bnd_len_eq (order_bnd v) (selL_bnd _ _) fun n => by
    rw [← rB_mem, selL_mem]
    constructor
    · intro hn
      exact ⟨n, rfl, rB_lt v hn, hn⟩
    · rintro ⟨m, e, _, hm⟩
      have : n = m := by exact Int.ofNat.inj e
      subst this
      exact hm
theorem nameIn_range {N : Nat} {x : Int} (hx : x = -1 ∨ (0 ≤ x ∧ x < (N : Int))) : nameIn ((List.range N).map fun (i : Nat) => (i : Int)) x = x := by
  rcases hx with rfl | ⟨h1, h2⟩
  · refine nameIn_no fun hm => ?_
    obtain ⟨i, _, e⟩ := List.mem_map.1 hm
    omega
  · obtain ⟨n, rfl⟩ := Int.eq_ofNat_of_zero_le h1
    refine nameIn_at (by simp; omega) ?_ (by simp)
    intro hm
    rw [← List.map_take, List.take_range] at hm
    obtain ⟨i, hi, e⟩ := List.mem_map.1 hm
    rw [List.mem_range] at hi
    omega
/-- After sliding nothing is moved. -/
theorem slide_moved {h : LH} (v : Valid h) : movedV (slideV h) = 0 := by
  have c := Cov.slide v
  have vg := gath_valid c
  rw [slideV_t (valid_iff.2 v), movedV_t (valid_iff.2 vg)]
  have e : slideL (gathH h (slideL h)) = (List.range (slideL h).length).map fun (i : Nat) => (i : Int) := by
    show selL (gathH h (slideL h)).cells.length (rB (gathH h (slideL h))) = _
    rw [gath_len]
    unfold selL
    rw [List.filter_eq_self.2 fun i hi => gath_all c (List.mem_range.1 hi)]
  rw [e]
  have : movedN ((List.range (slideL h).length).map fun (i : Nat) => (i : Int)) ((List.range (slideL h).length).map fun (i : Nat) => (i : Int)) = 0 := by
    unfold movedN
    rw [List.countP_eq_zero]
    intro x hx
    obtain ⟨i, hi, rfl⟩ := List.mem_map.1 hx
    rw [List.mem_range] at hi
    simp [nameIn_range (N := (slideL h).length) (x := (i : Int)) (.inr ⟨by omega, by omega⟩)]
  rw [this]
  rfl
theorem slide_le {h : LH} (v : Valid h) : movedV h ≤ ((orderL h.cells h.roots nn).length : Int) := by
  rw [movedV_t (valid_iff.2 v)]
  have h1 := movedN_le (slideL h) (slideL h)
  have h2 : (slideL h).length = (orderL h.cells h.roots nn).length := by rw [order_cnt v]; exact cntP_sel _ _
  omega
end
/-! Col -/
section
open Go
def sweptH (h : LH) : LH := dropH h (sweepP (reachV h))
theorem swept_eq {h : LH} (v : Valid h) : sweepV h (reachV h) = (sweptH h, ((cntP (leakP h) h.cells.length : Nat) : Int)) := by
  have hv := valid_iff.2 v
  rw [sweepV_t hv (reachV_len hv) ((valid_drop v _).2 (keeps_reach v))]
  have : cntP (sweepN h (reachV h)) h.cells.length = cntP (leakP h) h.cells.length := cntP_congr fun i hi => by
    unfold sweepN leakP
    rw [sweepP_reach hv hi]
  rw [this]
  rfl
theorem swept_valid {h : LH} (v : Valid h) : Valid (sweptH h) := valid_iff.1 ((valid_drop v _).2 (keeps_reach v))
end
/-! Sm -/
section
open Go
/-- At most 40 cells, each with at most three references; four roots. -/
structure Sm (h : LH) : Prop where
  le : h.cells.length ≤ 40
  three : ∀ c ∈ h.cells, c.refs.length ≤ 3
  four : h.roots.length = 4
theorem Valid.sm {h : LH} (v : Valid h) : Sm h := ⟨v.le, fun c hc => by
  obtain ⟨n, hn, rfl⟩ := List.getElem_of_mem hc
  exact v.refs3 hn, v.roots4⟩
theorem sm_of {h : LH} (h1 : h.cells.length ≤ 41) (h2 : ∀ c ∈ h.cells, c.refs.length ≤ 3) (h3 : h.roots.length ≤ 4) : hsize h ≤ 300 := by
  have := rsum_le3 h.cells h.cells.length h2
  unfold hsize
  omega
theorem Sm.size {h : LH} (s : Sm h) : hsize h ≤ 300 := sm_of (by have := s.le; omega) s.three (by rw [s.four]; omega)
theorem Sm.rest {h : LH} (s : Sm h) : hsize ⟨h.cells, h.roots.drop 1⟩ ≤ 300 := sm_of (by have := s.le; show h.cells.length ≤ 41; omega) s.three (by show (h.roots.drop 1).length ≤ 4; rw [List.length_drop, s.four]; omega)
theorem Sm.root {h : LH} (s : Sm h) (k : Nat) (x : Int) : hsize ⟨h.cells, h.roots.set k x⟩ ≤ 300 := sm_of (by have := s.le; show h.cells.length ≤ 41; omega) s.three (by show (h.roots.set k x).length ≤ 4; rw [List.length_set, s.four]; omega)
theorem Sm.more {h : LH} (s : Sm h) {z : LC} (hz : z.refs.length ≤ 3) : hsize ⟨h.cells ++ [z], h.roots⟩ ≤ 300 := sm_of (by have := s.le; show (h.cells ++ [z]).length ≤ 41; rw [List.length_append]; simp; omega) (fun c hc => by
  rcases List.mem_append.1 (show c ∈ h.cells ++ [z] from hc) with hc | hc
  · exact s.three c hc
  · simp only [List.mem_singleton] at hc
    rw [hc]
    exact hz) (by show h.roots.length ≤ 4; rw [s.four]; omega)
theorem Sm.ref {h : LH} (s : Sm h) {i : Nat} (hi : i < h.cells.length) (j : Nat) (x : Int) : Sm ⟨h.cells.set i ⟨h.cells[i].used, h.cells[i].data, h.cells[i].refs.set j x⟩, h.roots⟩ := ⟨by show (h.cells.set i _).length ≤ 40; rw [List.length_set]; exact s.le, fun c hc => by
  rcases List.mem_or_eq_of_mem_set (show c ∈ h.cells.set i _ from hc) with hc | rfl
  · exact s.three c hc
  · show (h.cells[i].refs.set j x).length ≤ 3
    rw [List.length_set]
    exact s.three _ (List.getElem_mem hi), s.four⟩
theorem Sm.swept {h : LH} (v : Valid h) : Sm (sweepV h (reachV h)).1 := by
  rw [swept_eq v]
  exact (swept_valid v).sm
theorem Blk.pickI {w : World} {b : Nat} {e : TypeId} {l : List Int} {k : Nat} (B : Blk w b e (ints l).toArray) (hk : k < l.length) : ∃ x : Int, w.cell? ⟨b, 0 + k * 1, none⟩ = some (.int .i64 x) := by
  refine ⟨l[k], ?_⟩
  rw [Nat.zero_add, Nat.mul_one]
  exact B.at (by rw [List.getElem?_toArray]; exact ints_get (List.getElem?_eq_getElem hk))
theorem flatO_last (l : List LCmd) (o : LCmd) : flatO (l ++ [o]) = flatO l ++ cmdC o := by rw [flatO_app, flatO, flatO, List.append_nil]
theorem flatO_take (l : List LCmd) (k : Nat) : (flatO l).take (k * 4) = flatO (l.take k) := by
  by_cases hk : k ≤ l.length
  · have e : flatO l = flatO (l.take k) ++ flatO (l.drop k) := by rw [← flatO_app, List.take_append_drop]
    rw [e, List.take_left']
    rw [flatO_len, List.length_take]
    omega
  · rw [List.take_of_length_le (by rw [flatO_len]; omega), List.take_of_length_le (by omega)]
theorem flatO_rep (o : LCmd) : ∀ n : Nat, flatO (List.replicate n o) = zeros (cmdC o) n
  | 0 => rfl
  | n + 1 => by rw [List.replicate_succ, flatO, flatO_rep o n]; rfl
theorem RO.of_ow {Pr : Nat → Prop} {w : World} {e : TypeId} {A : Option Addr} {n cap : Nat} {l : List LCmd} (O : OW Pr w e 4 A n cap (flatO l)) : RO Pr w A l := fun k o hk => by
  have hl := (List.getElem?_eq_some_iff.1 hk).1
  obtain ⟨b, post, rfl, hp, hB⟩ := O.blk (fun e0 => by
    have := flatO_len l
    rw [e0] at this
    simp at this
    omega)
  exact RO.of_blk hB hp k o hk
theorem all_snoc {α : Type} {p : α → Bool} {l : List α} {o : α} (h : l.all p = true) (ho : p o = true) : (l ++ [o]).all p = true := by
  rw [List.all_append, h]
  simp [ho]
end
/-! WalkDp -/
section
open Go Go.RowKit
attribute [local irreducible] wpList wpAnyH Code.wp dOp
set_option maxHeartbeats 1000000 in
set_option maxRecDepth 20000 in
theorem spec_l20Program_c (bR p : Nat) (n : Int) (w : World) (RD : Rd w bR p) (hp : p ≤ 800000) (hn : n ≤ 9223372036854775807) :
    Calls Try.prog 102 #[.pointer (some ⟨bR, 0, none⟩), .int .i64 n] w (Ret fun v w' => ∃ (l : List LCmd) (A1 : Option Addr) (q cap p2 : Nat), v = .slice A1 q cap ∧ q = l.length ∧ q ≤ cap ∧ l.length ≤ 41 ∧ (n ≤ 0 → csB l = true) ∧ p2 ≤ p + 700 ∧ RO (fun i => w.heap.size ≤ i) w' A1 l ∧ Rd w' bR p2 ∧ Mod (fun i => i = bR) w w') := by
 have lbR := RD.lt
 obtain ⟨z0, hz0⟩ : ∃ x, x = w.heap.size := ⟨_, rfl⟩
 refine enter Try.func102 rfl Try.ntmps102 (L := [_,_,_,_,_,_,_,_,_,_,_,_,_,_,_,_,_,_,_,_,_,_,_,_,_,_,_,_,_,_,_,_,_,_,_,_]) rfl ?_
 have G := Mod.refl (fun i => i = bR) w
 refine wp_seq_k fun K1 hK1 => ?_
 refine Sb 36 rfl ?_  -- 0
 refine S_val (Y_assign rfl) ?_
 refine S_nl rfl rfl ?_
 refine th_n (hK1 _ _ ?_)
 clear hK1 K1
 refine wp_seq_k fun K2 hK2 => ?_
 refine Sb 36 rfl ?_  -- 1
 refine S_bs0 Try.underlying93 sz112 ?_
 intro b1 w1 fb1 g1 B1
 have lb1 := B1.lt
 replace RD := RD.grow g1
 replace G := G.grow g1
 have zg1 := g1.size
 refine S_val (Y_assign rfl) ?_
 refine S_nl rfl rfl ?_
 refine th_n (hK2 _ _ ?_)
 clear hK2 K2
 refine wp_seq_k fun K3 hK3 => ?_
 refine wp_seq_k fun K4 hK4 => ?_
 refine Sb 36 rfl ?_  -- 2
 refine S_val (Y_move rfl) ?_
 refine S_call rfl en103 (spec_l20Rd_pick_c _ _ _ _ RD (by omega) (by omega)) ?_  -- k1 (*spec.l20Rd).pick
 rintro v2 w2 ⟨k2, rfl, hk2, RD2, m2⟩
 obtain ⟨k0, rfl⟩ : ∃ x, x = k2 := ⟨_, rfl⟩
 have hk0 := hk2 (by decide)
 replace RD := RD2
 clear RD2
 replace G := Mod.trans' G m2 (fun _ h _ => h) (fun i h hl => by first | exact h | omega | (dsimp only at h ⊢; omega))
 replace B1 := B1.md m2
 have zm2 := m2.size
 refine S_val (Y_assign rfl) ?_
 refine S_nl rfl rfl ?_
 refine th_n (hK4 _ _ ?_)
 clear hK4 K4
 refine wp_block ?_
 have O1 : OW (fun i => w.heap.size ≤ i) w2 112 4 (some ⟨b1, 0, none⟩) 0 0 (flatO []) := OW.of_blk B1 rfl (by decide) (by first | omega | (dsimp only; omega))
 go_loopw [5, 6] (fun u5 u6 wr => (∃ (k q cap pp : Nat) (A1 : Option Addr) (l : List LCmd), u6 = .int .i64 k ∧ u5 = .slice A1 q cap ∧ q = l.length ∧ l.length + k ≤ 40 ∧ l.all cvB = true ∧ pp ≤ p + 1 + 16 * l.length ∧ Rd wr bR pp ∧ OW (fun i => w.heap.size ≤ i) wr 112 4 A1 q cap (flatO l)) ∧ Mod (fun i => i = bR ∨ w.heap.size ≤ i) w2 wr) (fun u5 u6 wr => (intOf u6).toNat)  -- L1
 case atStart =>
  refine ⟨?_, Mod.refl _ _⟩
  exact ⟨k0, 0, 0, p + 1, _, [], rfl, rfl, rfl, by simp; omega, rfl, by omega, RD, O1⟩
 case round =>
  obtain ⟨w3, rfl⟩ : ∃ x : World, x = wr := ⟨_, rfl⟩
  obtain ⟨hrel, g3⟩ := hrel
  clear O1
  clear RD
  replace G := Mod.trans' G g3 (fun _ h _ => h) (fun i h hl => by first | exact h | omega | (dsimp only at h ⊢; omega))
  have zg3 := g3.size
  obtain ⟨k, q1, cap1, pp, A1, l, rfl, rfl, hq1, hlk, hall, hpp, RD, O1⟩ := hrel
  have GL3 := g3
  refine wp_seq_k fun K5 hK5 => ?_
  refine wp_seq_k fun K6 hK6 => ?_
  refine Sb 36 rfl ?_  -- 3
  refine S_val (Y_move rfl) ?_
  refine S_val (Y_gtr rfl rfl) ?_
  refine S_nl rfl rfl ?_
  refine th_n (hK6 _ _ ?_)
  clear hK6 K6
  refine S_if rfl (fun hb1 => ?_) (fun hb1 => ?_)  -- c1
  · -- c1T
   replace hb1 := nb_tt hb1
   have hk0 : 0 < k := by omega
   refine wp_skip ?_
   refine th_n (hK5 _ _ ?_)
   clear hK5 K5
   refine wp_seq_k fun K7 hK7 => ?_
   refine wp_block ?_
   refine Sb 36 rfl ?_  -- 5
   refine S_val (Y_move rfl) ?_
   refine S_val (Y_move rfl) ?_
   refine S_call rfl en120 (spec_l20Command_c _ _ _ _ RD (by omega) (by omega)) ?_  -- k2 spec.l20Command
   rintro v4 w4 ⟨o4, p4, rfl, ho4, hp4, RD4, m4⟩
   obtain ⟨oN, rfl⟩ : ∃ x, x = o4 := ⟨_, rfl⟩
   have hoN := ho4
   have hpN := hp4
   replace RD := RD4
   clear RD4
   replace G := Mod.trans' G m4 (fun _ h _ => h) (fun i h hl => by first | exact h | omega | (dsimp only at h ⊢; omega))
   replace GL3 := GL3.trn m4
   replace O1 := O1.md m4
   have zm4 := m4.size
   refine S_bs1 (cs := [_, _, _, _]) Try.underlying93 zr112 sz112 rfl rfl rfl ?_
   intro b5 w5 fb5 g5 B5
   have lb5 := B5.lt
   replace O1 := O1.grow g5
   replace RD := RD.grow g5
   replace G := G.grow g5
   replace GL3 := GL3.grow g5
   have zg5 := g5.size
   refine S_app Try.underlying93 zr112 sz112 by112 rfl rfl O1 rfl (Src.blk B5) (by simp [Value.oneCell', cmdC]) (by omega) (Pr' := (fun i => w.heap.size ≤ i)) (fun i hi => by first | exact hi | omega | (dsimp only at hi ⊢; omega)) (by first | omega | (dsimp only; omega)) ?_
   intro A6 cap6 w6 X6 m6
   replace O1 := X6
   clear X6
   replace G := Mod.trans' G m6 (fun _ h _ => h) (fun i h hl => by first | exact h | omega | (dsimp only at h ⊢; omega))
   replace GL3 := GL3.trn m6
   replace RD := RD.md m6
   have zm6 := m6.size
   replace O1 : OW (fun i => w.heap.size ≤ i) w6 112 4 A6 (q1 + 1) cap6 (flatO (l ++ [oN])) := by rw [flatO_last]; exact O1
   refine S_val (Y_assign rfl) ?_
   refine S_nl rfl rfl ?_
   refine ib_n ?_
   refine th_n (hK7 _ _ ?_)
   clear hK7 K7
   refine Sb 36 rfl ?_  -- 4
   refine S_val (Y_move rfl) ?_
   refine S_val (Y_sub (c := ((k - 1 : Nat) : Int)) rfl rfl (by omega) (by omega) (by omega)) ?_
   refine S_val (Y_assign rfl) ?_
   refine S_nl rfl rfl ?_
   refine th_n ?_
   go_roundw  -- e1 of L1
   case rel =>
    refine ⟨?_, GL3⟩
    exact ⟨k - 1, _, _, _, _, l ++ [oN], rfl, rfl, by rw [hq1, List.length_append]; rfl, by rw [List.length_append]; simp; omega, all_snoc hall (hoN (by decide)), by rw [List.length_append]; simp; omega, RD, O1⟩
   case measure =>
    exact dec_nat (by omega)
  · -- c1F
   replace hb1 := nb_tf hb1
   have hcs0 : csB l = true := by unfold csB; rw [decide_eq_true_eq]; exact ⟨by omega, hall⟩
   have hqc := O1.cap
   have hl40 : l.length ≤ 41 := by omega
   obtain ⟨lF, hlF⟩ : ∃ x, x = l := ⟨_, rfl⟩
   rw [← hlF] at hcs0 hl40 O1 hq1
   have hcsF : n ≤ 0 → csB lF = true := fun _ => hcs0
   refine wp_exit ?_
   refine th_x ?_
   try clear GL3
   refine th_x ?_
   refine ib_e ?_
   refine th_n (hK3 _ _ ?_)
   clear hK5 K5 hK3 K3
   refine wp_seq_k fun K8 hK8 => ?_
   refine wp_seq_k fun K9 hK9 => ?_
   refine Sb 36 rfl ?_  -- 6
   refine S_val (Y_move rfl) ?_
   refine S_val (Y_move rfl) ?_
   refine S_call rfl en105 (spec_l20Rd_odd_c _ _ _ _ RD (by omega) (by omega)) ?_  -- k3 (*spec.l20Rd).odd
   rintro v7 w7 ⟨r7, p7, rfl, hr7, hp7, RD7, m7⟩
   obtain ⟨r9, rfl⟩ : ∃ x, x = r7 := ⟨_, rfl⟩
   have hr9 := hr7
   replace RD := RD7
   clear RD7
   replace G := Mod.trans' G m7 (fun _ h _ => h) (fun i h hl => by first | exact h | omega | (dsimp only at h ⊢; omega))
   replace O1 := O1.md m7
   have zm7 := m7.size
   refine S_nl rfl rfl ?_
   refine th_n (hK9 _ _ ?_)
   clear hK9 K9
   refine S_if rfl (fun hb2 => ?_) (fun hb2 => ?_)  -- c2
   · -- c2T
    first | with_reducible (replace hb2 := nb_nt hb2) | with_reducible (replace hb2 := nb_tt hb2) | with_reducible (replace hb2 := nb_bt hb2) | skip
    refine wp_seq_k fun K10 hK10 => ?_
    refine Sb 36 rfl ?_  -- 7
    refine S_val (Y_move rfl) ?_
    refine S_call rfl en103 (spec_l20Rd_pick_c _ _ _ _ RD (by omega) (by omega)) ?_  -- k4 (*spec.l20Rd).pick
    rintro v8 w8 ⟨k8, rfl, hk8, RD8, m8⟩
    obtain ⟨k1, rfl⟩ : ∃ x, x = k8 := ⟨_, rfl⟩
    have hk1 := hk8 (by decide)
    replace RD := RD8
    clear RD8
    replace G := Mod.trans' G m8 (fun _ h _ => h) (fun i h hl => by first | exact h | omega | (dsimp only at h ⊢; omega))
    replace O1 := O1.md m8
    have zm8 := m8.size
    refine S_val (Y_eql rfl rfl) ?_
    refine S_nl rfl rfl ?_
    refine th_n (hK10 _ _ ?_)
    clear hK10 K10
    refine S_if rfl (fun hb3 => ?_) (fun hb3 => ?_)  -- c3
    · -- c3T
     replace hb3 := nb_tt hb3
     refine D_start 10 36 (fun w => Mod (fun i => i = bR ∨ z0 ≤ i) w) follows rfl rfl ?_  -- d1 r8
     intro w9 g9
     replace O1 := O1.grow g9
     replace RD := RD.grow g9
     replace G := G.grow g9
     have zg9 := g9.size
     have GS9 := Mod.refl (fun i => i = bR ∨ z0 ≤ i) w9
     refine Dq (i := 0) rfl GS9 (fun _ _ => Y_move rfl) ?_
     refine Dq (i := 1) rfl GS9 (fun _ _ => Y_move rfl) ?_
     refine Dq (i := 2) rfl GS9 (fun _ _ => Y_len Try.underlying93 rfl) ?_
     refine Dq (i := 5) rfl GS9 (fun _ _ => Y_move rfl) ?_
     refine D_2 (i := 3) (j := 6) (by kernel_rfl) ?_ ?_
     · -- operation 3 comes up
      refine E_val (i := 3) rfl (Y_minN (b := 9) rfl rfl) GS9 ?_
      refine Dq (i := 4) rfl GS9 (fun _ _ => Y_sliceH Try.underlying93 sz112 rfl (j := min q1 9) rfl (by omega)) ?_
      refine D_1 (i := 6) (by kernel_rfl) ?_
      refine E_call rfl rfl en120 (spec_l20Command_c _ _ _ _ RD (by omega) (by omega)) ?_  -- k5 spec.l20Command
      rintro v11 w11 ⟨o11, p11, rfl, ho11, hp11, RD11, m11⟩
      obtain ⟨oN, rfl⟩ : ∃ x, x = o11 := ⟨_, rfl⟩
      have hoN := ho11
      have hpN := hp11
      replace RD := RD11
      clear RD11
      replace G := Mod.trans' G m11 (fun _ h _ => h) (fun i h hl => by first | exact h | omega | (dsimp only at h ⊢; omega))
      replace GS9 := GS9.trn m11
      replace O1 := O1.md m11
      have zm11 := m11.size
      refine ⟨GS9, ?_⟩
      refine D_1 (i := 7) (by kernel_rfl) ?_
      refine E_bs1 (cs := [_, _, _, _]) (i := 7) rfl Try.underlying93 zr112 sz112 rfl rfl rfl ?_
      intro b12 w12 fb12 g12 B12
      refine ⟨GS9.grow g12, ?_⟩
      have lb12 := B12.lt
      replace O1 := O1.grow g12
      replace RD := RD.grow g12
      replace G := G.grow g12
      replace GS9 := GS9.grow g12
      have zg12 := g12.size
      refine D_1 (i := 8) (by kernel_rfl) ?_
      refine E_app (i := 8) rfl Try.underlying93 zr112 sz112 by112 rfl rfl (O1.pop (m := min q1 9) (by omega)) rfl (Src.blk B12) (by simp [Value.oneCell', cmdC]) (by omega) (Pr' := (fun i => w.heap.size ≤ i)) (fun i hi => by first | exact hi | omega | (dsimp only at hi ⊢; omega)) (by first | omega | (dsimp only; omega)) ?_
      intro A13 cap13 w13 X13 m13
      replace O1 := X13
      clear X13
      replace G := Mod.trans' G m13 (fun _ h _ => h) (fun i h hl => by first | exact h | omega | (dsimp only at h ⊢; omega))
      replace GS9 := GS9.trn m13
      replace RD := RD.md m13
      have zm13 := m13.size
      rw [flatO_take] at O1
      replace O1 : OW (fun i => w.heap.size ≤ i) w13 112 4 A13 (min q1 9 + 1) cap13 (flatO (lF.take (min q1 9) ++ [oN])) := by rw [flatO_last]; exact O1
      have hl41 : (lF.take (min q1 9) ++ [oN]).length = min q1 9 + 1 := by rw [List.length_append, List.length_take]; simp; omega
      refine ⟨GS9, ?_⟩
      refine Dq (i := 9) rfl GS9 (fun _ _ => Y_assign rfl) ?_
      refine D_en (by kernel_rfl) rfl rfl ?_
      refine th_n (hK8 _ _ ?_)
      clear hK8 K8
      refine wp_seq_k fun K11 hK11 => ?_
      refine Sb 36 rfl ?_  -- 10
      refine S_val (Y_move rfl) ?_
      refine S_val (Y_assign rfl) ?_
      refine S_nl rfl rfl ?_
      refine th_n (hK11 _ _ ?_)
      clear hK11 K11
      refine wp_ret ?_
      refine ret_r1 rfl rfl ?_  -- r1
      first | exact ⟨lF, _, _, _, _, rfl, hq1, hqc, hl40, hcsF, by omega, RO.of_ow O1, RD, G⟩ | exact ⟨_, _, _, _, _, rfl, by rw [hl41], O1.cap, by omega, fun h => by (have h9 := hr9 h; rw [h9] at hb2; cases hb2), by omega, RO.of_ow O1, RD, G⟩ | exact ⟨List.replicate 41 ⟨0, 0, 0, 0⟩, _, _, _, _, rfl, by simp, by omega, by simp, fun h => by (have h9 := hr9 h; rw [h9] at hb2; cases hb2), by omega, hRO, RD, G⟩
     · -- operation 6 comes up
      refine E_call rfl rfl en120 (spec_l20Command_c _ _ _ _ RD (by omega) (by omega)) ?_  -- k6 spec.l20Command
      rintro v14 w14 ⟨o14, p14, rfl, ho14, hp14, RD14, m14⟩
      obtain ⟨oN, rfl⟩ : ∃ x, x = o14 := ⟨_, rfl⟩
      have hoN := ho14
      have hpN := hp14
      replace RD := RD14
      clear RD14
      replace G := Mod.trans' G m14 (fun _ h _ => h) (fun i h hl => by first | exact h | omega | (dsimp only at h ⊢; omega))
      replace GS9 := GS9.trn m14
      replace O1 := O1.md m14
      have zm14 := m14.size
      refine ⟨GS9, ?_⟩
      refine D_2 (i := 3) (j := 7) (by kernel_rfl) ?_ ?_
      · -- operation 3 comes up
       refine E_val (i := 3) rfl (Y_minN (b := 9) rfl rfl) GS9 ?_
       refine Dq (i := 4) rfl GS9 (fun _ _ => Y_sliceH Try.underlying93 sz112 rfl (j := min q1 9) rfl (by omega)) ?_
       refine D_1 (i := 7) (by kernel_rfl) ?_
       refine E_bs1 (cs := [_, _, _, _]) (i := 7) rfl Try.underlying93 zr112 sz112 rfl rfl rfl ?_
       intro b16 w16 fb16 g16 B16
       refine ⟨GS9.grow g16, ?_⟩
       have lb16 := B16.lt
       replace O1 := O1.grow g16
       replace RD := RD.grow g16
       replace G := G.grow g16
       replace GS9 := GS9.grow g16
       have zg16 := g16.size
       refine D_1 (i := 8) (by kernel_rfl) ?_
       refine E_app (i := 8) rfl Try.underlying93 zr112 sz112 by112 rfl rfl (O1.pop (m := min q1 9) (by omega)) rfl (Src.blk B16) (by simp [Value.oneCell', cmdC]) (by omega) (Pr' := (fun i => w.heap.size ≤ i)) (fun i hi => by first | exact hi | omega | (dsimp only at hi ⊢; omega)) (by first | omega | (dsimp only; omega)) ?_
       intro A17 cap17 w17 X17 m17
       replace O1 := X17
       clear X17
       replace G := Mod.trans' G m17 (fun _ h _ => h) (fun i h hl => by first | exact h | omega | (dsimp only at h ⊢; omega))
       replace GS9 := GS9.trn m17
       replace RD := RD.md m17
       have zm17 := m17.size
       rw [flatO_take] at O1
       replace O1 : OW (fun i => w.heap.size ≤ i) w17 112 4 A17 (min q1 9 + 1) cap17 (flatO (lF.take (min q1 9) ++ [oN])) := by rw [flatO_last]; exact O1
       have hl41 : (lF.take (min q1 9) ++ [oN]).length = min q1 9 + 1 := by rw [List.length_append, List.length_take]; simp; omega
       refine ⟨GS9, ?_⟩
       refine Dq (i := 9) rfl GS9 (fun _ _ => Y_assign rfl) ?_
       refine D_en (by kernel_rfl) rfl rfl ?_
       refine th_n (hK8 _ _ ?_)
       clear hK8 K8
       refine wp_seq_k fun K12 hK12 => ?_
       refine Sb 36 rfl ?_  -- 10
       refine S_val (Y_move rfl) ?_
       refine S_val (Y_assign rfl) ?_
       refine S_nl rfl rfl ?_
       refine th_n (hK12 _ _ ?_)
       clear hK12 K12
       refine wp_ret ?_
       refine ret_r1 rfl rfl ?_  -- r2
       first | exact ⟨lF, _, _, _, _, rfl, hq1, hqc, hl40, hcsF, by omega, RO.of_ow O1, RD, G⟩ | exact ⟨_, _, _, _, _, rfl, by rw [hl41], O1.cap, by omega, fun h => by (have h9 := hr9 h; rw [h9] at hb2; cases hb2), by omega, RO.of_ow O1, RD, G⟩ | exact ⟨List.replicate 41 ⟨0, 0, 0, 0⟩, _, _, _, _, rfl, by simp, by omega, by simp, fun h => by (have h9 := hr9 h; rw [h9] at hb2; cases hb2), by omega, hRO, RD, G⟩
      · -- operation 7 comes up
       refine E_bs1 (cs := [_, _, _, _]) (i := 7) rfl Try.underlying93 zr112 sz112 rfl rfl rfl ?_
       intro b18 w18 fb18 g18 B18
       refine ⟨GS9.grow g18, ?_⟩
       have lb18 := B18.lt
       replace O1 := O1.grow g18
       replace RD := RD.grow g18
       replace G := G.grow g18
       replace GS9 := GS9.grow g18
       have zg18 := g18.size
       refine D_1 (i := 3) (by kernel_rfl) ?_
       refine E_val (i := 3) rfl (Y_minN (b := 9) rfl rfl) GS9 ?_
       refine Dq (i := 4) rfl GS9 (fun _ _ => Y_sliceH Try.underlying93 sz112 rfl (j := min q1 9) rfl (by omega)) ?_
       refine D_1 (i := 8) (by kernel_rfl) ?_
       refine E_app (i := 8) rfl Try.underlying93 zr112 sz112 by112 rfl rfl (O1.pop (m := min q1 9) (by omega)) rfl (Src.blk B18) (by simp [Value.oneCell', cmdC]) (by omega) (Pr' := (fun i => w.heap.size ≤ i)) (fun i hi => by first | exact hi | omega | (dsimp only at hi ⊢; omega)) (by first | omega | (dsimp only; omega)) ?_
       intro A20 cap20 w20 X20 m20
       replace O1 := X20
       clear X20
       replace G := Mod.trans' G m20 (fun _ h _ => h) (fun i h hl => by first | exact h | omega | (dsimp only at h ⊢; omega))
       replace GS9 := GS9.trn m20
       replace RD := RD.md m20
       have zm20 := m20.size
       rw [flatO_take] at O1
       replace O1 : OW (fun i => w.heap.size ≤ i) w20 112 4 A20 (min q1 9 + 1) cap20 (flatO (lF.take (min q1 9) ++ [oN])) := by rw [flatO_last]; exact O1
       have hl41 : (lF.take (min q1 9) ++ [oN]).length = min q1 9 + 1 := by rw [List.length_append, List.length_take]; simp; omega
       refine ⟨GS9, ?_⟩
       refine Dq (i := 9) rfl GS9 (fun _ _ => Y_assign rfl) ?_
       refine D_en (by kernel_rfl) rfl rfl ?_
       refine th_n (hK8 _ _ ?_)
       clear hK8 K8
       refine wp_seq_k fun K13 hK13 => ?_
       refine Sb 36 rfl ?_  -- 10
       refine S_val (Y_move rfl) ?_
       refine S_val (Y_assign rfl) ?_
       refine S_nl rfl rfl ?_
       refine th_n (hK13 _ _ ?_)
       clear hK13 K13
       refine wp_ret ?_
       refine ret_r1 rfl rfl ?_  -- r3
       first | exact ⟨lF, _, _, _, _, rfl, hq1, hqc, hl40, hcsF, by omega, RO.of_ow O1, RD, G⟩ | exact ⟨_, _, _, _, _, rfl, by rw [hl41], O1.cap, by omega, fun h => by (have h9 := hr9 h; rw [h9] at hb2; cases hb2), by omega, RO.of_ow O1, RD, G⟩ | exact ⟨List.replicate 41 ⟨0, 0, 0, 0⟩, _, _, _, _, rfl, by simp, by omega, by simp, fun h => by (have h9 := hr9 h; rw [h9] at hb2; cases hb2), by omega, hRO, RD, G⟩
    · -- c3F
     replace hb3 := nb_tf hb3
     refine Sb 36 rfl ?_  -- 9
     refine S_make (n := 41) (l := 41) (z := cmdC ⟨0, 0, 0, 0⟩) Try.underlying93 zr112 sz112 by112 rfl rfl (by omega) (by omega) (by omega) ?_
     intro b21 w21 fb21 g21 B21
     have lb21 := B21.lt
     replace O1 := O1.grow g21
     replace RD := RD.grow g21
     replace G := G.grow g21
     have zg21 := g21.size
     rw [← flatO_rep] at B21
     have hRO : RO (fun i => w.heap.size ≤ i) w21 (some ⟨b21, 0, none⟩) (List.replicate 41 ⟨0, 0, 0, 0⟩) := RO.of_blk0 B21 (by omega)
     refine S_val (Y_assign rfl) ?_
     refine S_nl rfl rfl ?_
     refine th_n (hK8 _ _ ?_)
     clear hK8 K8
     refine wp_seq_k fun K14 hK14 => ?_
     refine Sb 36 rfl ?_  -- 10
     refine S_val (Y_move rfl) ?_
     refine S_val (Y_assign rfl) ?_
     refine S_nl rfl rfl ?_
     refine th_n (hK14 _ _ ?_)
     clear hK14 K14
     refine wp_ret ?_
     refine ret_r1 rfl rfl ?_  -- r4
     first | exact ⟨lF, _, _, _, _, rfl, hq1, hqc, hl40, hcsF, by omega, RO.of_ow O1, RD, G⟩ | exact ⟨_, _, _, _, _, rfl, by rw [hl41], O1.cap, by omega, fun h => by (have h9 := hr9 h; rw [h9] at hb2; cases hb2), by omega, RO.of_ow O1, RD, G⟩ | exact ⟨List.replicate 41 ⟨0, 0, 0, 0⟩, _, _, _, _, rfl, by simp, by omega, by simp, fun h => by (have h9 := hr9 h; rw [h9] at hb2; cases hb2), by omega, hRO, RD, G⟩
   · -- c2F
    first | with_reducible (replace hb2 := nb_nf hb2) | with_reducible (replace hb2 := nb_tf hb2) | with_reducible (replace hb2 := nb_bf hb2) | skip
    refine wp_skip ?_
    refine th_n (hK8 _ _ ?_)
    clear hK8 K8
    refine wp_seq_k fun K15 hK15 => ?_
    refine Sb 36 rfl ?_  -- 10
    refine S_val (Y_move rfl) ?_
    refine S_val (Y_assign rfl) ?_
    refine S_nl rfl rfl ?_
    refine th_n (hK15 _ _ ?_)
    clear hK15 K15
    refine wp_ret ?_
    refine ret_r1 rfl rfl ?_  -- r5
    first | exact ⟨lF, _, _, _, _, rfl, hq1, hqc, hl40, hcsF, by omega, RO.of_ow O1, RD, G⟩ | exact ⟨_, _, _, _, _, rfl, by rw [hl41], O1.cap, by omega, fun h => by (have h9 := hr9 h; rw [h9] at hb2; cases hb2), by omega, RO.of_ow O1, RD, G⟩ | exact ⟨List.replicate 41 ⟨0, 0, 0, 0⟩, _, _, _, _, rfl, by simp, by omega, by simp, fun h => by (have h9 := hr9 h; rw [h9] at hb2; cases hb2), by omega, hRO, RD, G⟩
end
/-! WalkQ -/
section
open Go Go.RowKit
attribute [local irreducible] wpList wpAnyH Code.wp dOp
def metV (h : LH) : List Int := if validB h = true then orderL h.cells h.roots nn else []
theorem metV_t {h : LH} (hv : validB h = true) : metV h = orderL h.cells h.roots nn := if_pos hv
theorem metV_f {h : LH} (hv : validB h = false) : metV h = [] := if_neg (by simp [hv])
theorem metV_len (h : LH) : (metV h).length ≤ h.cells.length := by
  cases hv : validB h with
  | true => rw [metV_t hv]; exact (orderL_bnd (valid_iff.1 hv).leads).len
  | false => rw [metV_f hv]; exact Nat.zero_le _
set_option maxHeartbeats 400000 in
set_option maxRecDepth 20000 in
theorem impl_MetOrder_c (Pr : Nat → Prop) (A B : Option Addr) (h : LH) (c d : Nat) (w : World) (hA : RC Pr w A h.cells) (hB : R1 Pr w B (ints h.roots)) (hz : hsize h ≤ 1048576) :
    Calls Try.prog 26 #[.agg #[.slice A h.cells.length c, .slice B h.roots.length d]] w (Ret fun v w' => ∃ A1 q cap, v = .slice A1 q cap ∧ q = (metV h).length ∧ OI (fun i => w.heap.size ≤ i) w' 3 A1 (ints (metV h)) ∧ Grow w w') := by
 refine enter Try.func26 rfl Try.ntmps26 (L := [_,_,_,_,_,_,_,_]) rfl ?_
 have G := Mod.refl No w
 have hA0 := hA
 have hB0 := hB
 refine wp_seq_k fun K1 hK1 => ?_
 refine Sb 8 rfl ?_  -- 0
 refine S_box (cs := [_, _]) rfl rfl ?_
 intro b1 w1 fb1 g1 B1
 have lb1 := B1.lt
 replace hA := hA.grow g1
 replace hB := hB.grow g1
 replace G := G.grow g1
 have zg1 := g1.size
 refine S_val (Y_assign rfl) ?_
 refine S_nl rfl rfl ?_
 refine th_n (hK1 _ _ ?_)
 clear hK1 K1
 refine wp_seq_k fun K2 hK2 => ?_
 refine wp_seq_k fun K3 hK3 => ?_
 refine Sb 8 rfl ?_  -- 1
 refine S_val (Y_loadS Try.underlying26 rfl sz26 rfl (B1.row (by rfl))) ?_  -- l1
 refine S_call rfl en63 (impl_HeapValid_c _ _ _ _ _ _ _ (by assumption) (by assumption) (by omega)) ?_  -- k1 impl.HeapValid
 rintro v2 w2 ⟨rfl, g2⟩
 replace hA := hA.grow g2
 replace hB := hB.grow g2
 replace G := G.grow g2
 replace B1 := B1.grow g2
 have zg2 := g2.size
 refine S_val (Y_not rfl) ?_
 refine S_nl rfl rfl ?_
 refine th_n (hK3 _ _ ?_)
 clear hK3 K3
 refine S_if rfl (fun hb1 => ?_) (fun hb1 => ?_)  -- c1
 · -- c1T
  first | with_reducible (replace hb1 := nb_nt hb1) | with_reducible (replace hb1 := nb_tt hb1) | with_reducible (replace hb1 := nb_bt hb1) | skip
  refine wp_seq_k fun K4 hK4 => ?_
  refine Sb 8 rfl ?_  -- 2
  refine S_val (Y_assign rfl) ?_
  refine S_nl rfl rfl ?_
  refine th_n (hK4 _ _ ?_)
  clear hK4 K4
  refine wp_ret ?_
  refine th_r ?_
  clear hK2 K2
  refine ret_r1 rfl rfl ?_  -- r1
  exact ⟨_, _, _, rfl, by rw [metV_f hb1]; rfl, by rw [metV_f hb1]; exact OI.nil _ _ _ _, G⟩
 · -- c1F
  first | with_reducible (replace hb1 := nb_nf hb1) | with_reducible (replace hb1 := nb_tf hb1) | with_reducible (replace hb1 := nb_bf hb1) | skip
  have va := valid_iff.1 hb1
  have hl := va.leads
  have h40 := va.le
  have hr4 := va.roots4
  refine wp_skip ?_
  refine th_n (hK2 _ _ ?_)
  clear hK2 K2
  refine wp_seq_k fun K5 hK5 => ?_
  refine Sb 8 rfl ?_  -- 3
  refine S_val (Y_loadS Try.underlying26 rfl sz26 rfl (B1.row (by rfl))) ?_  -- l2
  refine S_call rfl en73 (impl_metOrder_c _ _ _ _ _ _ _ (by assumption) (by assumption) (by omega) (by assumption) (by omega)) ?_  -- k2 impl.metOrder
  rintro v3 w3 ⟨A3, q3, cap3, rfl, hq3, O3, g3⟩
  replace hA := hA.grow g3
  replace hB := hB.grow g3
  replace G := G.grow g3
  replace B1 := B1.grow g3
  have zg3 := g3.size
  subst hq3
  refine S_val (Y_assign rfl) ?_
  refine S_nl rfl rfl ?_
  refine th_n (hK5 _ _ ?_)
  clear hK5 K5
  refine wp_ret ?_
  refine ret_r1 rfl rfl ?_  -- r2
  exact ⟨_, _, _, rfl, by rw [metV_t hb1], by rw [metV_t hb1]; exact OI.weak (by first | assumption | exact OW.oi (by assumption)) (fun i hi => by omega), G⟩
end
/-! WalkS -/
section
open Go Go.RowKit
attribute [local irreducible] wpList wpAnyH Code.wp dOp
set_option maxHeartbeats 400000 in
set_option maxRecDepth 20000 in
theorem impl_numbersIn_c (Pr : Nat → Prop) (E : Option Addr) (o : List Int) (e N : Nat) (w : World) (hE : R1 Pr w E (ints o)) (hb : Bnd N o) (hN : N ≤ 1048576) :
    Calls Try.prog 64 #[.slice E o.length e, .int .i64 (N : Int)] w (Ret fun v w' => ∃ b, v = .slice (some ⟨b, 0, none⟩) N N ∧ w.heap.size ≤ b ∧ Blk w' b 3 (ints (namesL N o)).toArray ∧ Grow w w') := by
 have hlen := hb.len
 refine enter Try.func64 rfl Try.ntmps64 (L := [_,_,_,_,_,_,_,_,_,_,_,_,_,_,_,_,_,_,_,_,_,_,_,_,_,_,_,_,_,_,_,_,_]) rfl ?_
 have G := Mod.refl No w
 have hE0 := hE
 refine wp_seq_k fun K1 hK1 => ?_
 refine Sb 33 rfl ?_  -- 0
 refine S_val (Y_assign rfl) ?_
 refine S_nl rfl rfl ?_
 refine th_n (hK1 _ _ ?_)
 clear hK1 K1
 refine wp_seq_k fun K2 hK2 => ?_
 refine Sb 33 rfl ?_  -- 1
 refine S_val (Y_move rfl) ?_
 refine S_make (z := [.int .i64 0]) Try.underlying24 zr3 sz3 by3 rfl rfl (by omega) (by omega) (by omega) ?_
 intro b1 w1 fb1 g1 B1
 have lb1 := B1.lt
 replace hE := hE.grow g1
 replace G := G.grow g1
 have zg1 := g1.size
 refine S_val (Y_assign rfl) ?_
 refine S_nl rfl rfl ?_
 refine th_n (hK2 _ _ ?_)
 clear hK2 K2
 refine wp_seq_k fun K3 hK3 => ?_
 refine wp_seq_k fun K4 hK4 => ?_
 refine Sb 33 rfl ?_  -- 2
 refine S_val (Y_move rfl) ?_
 refine S_val (Y_len Try.underlying24 rfl) ?_
 refine S_val (Y_move rfl) ?_
 refine S_nl rfl rfl ?_
 refine th_n (hK4 _ _ ?_)
 clear hK4 K4
 refine wp_block ?_
 go_loopw [13] (fun u13 wr => (∃ k : Nat, u13 = .int .i64 k ∧ k ≤ N ∧ Blk wr b1 3 (List.replicate k (Value.int .i64 (-1)) ++ zeros [.int .i64 0] (N - k)).toArray) ∧ Mod (fun i => i = b1) w1 wr) (fun u13 wr => N - (intOf u13).toNat)  -- L1
 case atStart =>
  refine ⟨?_, Mod.refl _ _⟩
  exact ⟨0, rfl, by omega, by simpa using B1⟩
 case round =>
  obtain ⟨w2, rfl⟩ : ∃ x : World, x = wr := ⟨_, rfl⟩
  obtain ⟨hrel, g2⟩ := hrel
  clear B1
  replace G := G.abv g2
  replace hE := hE0.grow G
  have zg2 := g2.size
  obtain ⟨k, rfl, hk, B1⟩ := hrel
  have GL2 := g2
  refine wp_seq_k fun K5 hK5 => ?_
  refine Sb 33 rfl ?_  -- 3
  refine S_val (Y_lss rfl rfl) ?_
  refine S_nl rfl rfl ?_
  refine th_n (hK5 _ _ ?_)
  clear hK5 K5
  refine wp_seq_k fun K6 hK6 => ?_
  refine S_if rfl (fun hb1 => ?_) (fun hb1 => ?_)  -- c1
  · -- c1T
   replace hb1 := nb_tt hb1
   have hk1 : k < N := by omega
   rw [zeros_pos (by omega)] at B1
   refine wp_skip ?_
   refine th_n (hK6 _ _ ?_)
   clear hK6 K6
   refine wp_seq_k fun K7 hK7 => ?_
   refine wp_block ?_
   refine wp_seq_k fun K8 hK8 => ?_
   refine Sb 33 rfl ?_  -- 4
   refine S_val (Y_move rfl) ?_
   refine S_val (Y_assign rfl) ?_
   refine S_nl rfl rfl ?_
   refine th_n (hK8 _ _ ?_)
   clear hK8 K8
   refine Sb 33 rfl ?_  -- 5
   refine S_val (Y_move rfl) ?_
   refine S_val (Y_move rfl) ?_
   refine S_val (Y_index Try.underlying24 sz3 rfl rfl (by first | assumption | omega)) ?_
   refine S_stM (pre := List.replicate k (Value.int .i64 (-1))) (old := [.int .i64 0]) (post := zeros [.int .i64 0] (N - k - 1)) (vs := [_]) sz3 rfl rfl rfl rfl (by rw [List.append_assoc]; exact B1) (by simp) rfl ?_
   intro w3 m3 X3
   replace B1 := Blk.eq X3 (fill_step hk1)
   clear X3
   replace G := G.abv m3
   replace GL2 := GL2.trn m3
   replace hE := hE0.grow G
   have zm3 := m3.size
   refine S_nl rfl rfl ?_
   refine ib_n ?_
   refine th_n (hK7 _ _ ?_)
   clear hK7 K7
   refine Sb 33 rfl ?_  -- 6
   refine S_val (Y_inc rfl rfl (by omega)) ?_
   refine S_val (Y_move rfl) ?_
   refine S_nl rfl rfl ?_
   refine th_n ?_
   go_roundw  -- e1 of L1
   case rel =>
    refine ⟨?_, GL2⟩
    exact ⟨k + 1, rfl, by omega, B1⟩
   case measure =>
    exact dec_nat (by omega)
  · -- c1F
   replace hb1 := nb_tf hb1
   refine wp_exit ?_
   refine th_x ?_
   try clear GL2
   refine th_x ?_
   refine ib_e ?_
   refine th_n (hK3 _ _ ?_)
   clear hK6 K6 hK3 K3
   refine wp_seq_k fun K9 hK9 => ?_
   refine wp_seq_k fun K10 hK10 => ?_
   refine Sb 33 rfl ?_  -- 7
   refine S_val (Y_move rfl) ?_
   refine S_val (Y_len Try.underlying24 rfl) ?_
   refine S_val (Y_move rfl) ?_
   refine S_nl rfl rfl ?_
   refine th_n (hK10 _ _ ?_)
   clear hK10 K10
   refine wp_block ?_
   have hkN : k = N := by omega
   rw [hkN, Nat.sub_self] at B1
   replace B1 := Blk.eq B1 (show _ = ints (namesL N []) by rw [namesL_nil, ints_rep]; simp [zeros])
   go_loopw [22] (fun u22 wr => (∃ k : Nat, u22 = .int .i64 k ∧ k ≤ o.length ∧ Blk wr b1 3 (ints (namesL N (o.take k))).toArray) ∧ Mod (fun i => i = b1) w2 wr) (fun u22 wr => o.length - (intOf u22).toNat)  -- L2
   case atStart =>
    refine ⟨?_, Mod.refl _ _⟩
    exact ⟨0, rfl, by omega, by simpa using B1⟩
   case round =>
    obtain ⟨w4, rfl⟩ : ∃ x : World, x = wr := ⟨_, rfl⟩
    obtain ⟨hrel, g4⟩ := hrel
    clear B1
    replace G := G.abv g4
    replace hE := hE0.grow G
    have zg4 := g4.size
    obtain ⟨k, rfl, hk, B1⟩ := hrel
    have GL4 := g4
    refine wp_seq_k fun K11 hK11 => ?_
    refine Sb 33 rfl ?_  -- 8
    refine S_val (Y_lss rfl rfl) ?_
    refine S_nl rfl rfl ?_
    refine th_n (hK11 _ _ ?_)
    clear hK11 K11
    refine wp_seq_k fun K12 hK12 => ?_
    refine S_if rfl (fun hb2 => ?_) (fun hb2 => ?_)  -- c2
    · -- c2T
     replace hb2 := nb_tt hb2
     have hk1 : k < o.length := by omega
     obtain ⟨n, hn, hnN, hng⟩ := bnd_at hb hk1
     obtain ⟨g2, o2, rfl, hp2, hc2⟩ := hE.int hk1
     rw [hn] at hc2
     have hnot := take_notMem hb hk1 hn
     have htk := List.take_succ_eq_append_getElem hk1
     rw [hn] at htk
     refine wp_skip ?_
     refine th_n (hK12 _ _ ?_)
     clear hK12 K12
     refine wp_seq_k fun K13 hK13 => ?_
     refine wp_block ?_
     refine wp_seq_k fun K14 hK14 => ?_
     refine Sb 33 rfl ?_  -- 9
     refine S_val (Y_move rfl) ?_
     refine S_val (Y_index Try.underlying24 sz3 rfl rfl (by first | assumption | omega)) ?_
     refine S_val (Y_load Try.underlying3 rfl rfl (by first | assumption | exact B1.at (by rfl))) ?_  -- l1
     refine S_val (Y_assign rfl) ?_
     refine S_val (Y_assign rfl) ?_
     refine S_nl rfl rfl ?_
     refine th_n (hK14 _ _ ?_)
     clear hK14 K14
     refine Sb 33 rfl ?_  -- 10
     refine S_val (Y_move rfl) ?_
     refine S_val (Y_move rfl) ?_
     refine S_val (Y_move rfl) ?_
     refine S_val (Y_index Try.underlying24 sz3 rfl rfl (by first | assumption | omega)) ?_
     refine S_stM (pre := (ints (namesL N (o.take k))).take n) (old := [.int .i64 (nameIn (o.take k) (n : Int))]) (post := (ints (namesL N (o.take k))).drop (n + 1)) (vs := [_]) sz3 rfl rfl rfl rfl (by rw [← namesL_split hnN]; exact B1) (by rw [List.length_take, ints_len, namesL_len]; omega) rfl ?_
     intro w5 m5 X5
     replace B1 := Blk.eq X5 (show _ = ints (namesL N (o.take k ++ [(n : Int)])) by have hns := namesL_set hnN hnot; rw [List.length_take, Nat.min_eq_left hk] at hns; exact hns)
     clear X5
     replace G := G.abv m5
     replace GL4 := GL4.trn m5
     replace hE := hE0.grow G
     have zm5 := m5.size
     refine S_nl rfl rfl ?_
     refine ib_n ?_
     refine th_n (hK13 _ _ ?_)
     clear hK13 K13
     refine Sb 33 rfl ?_  -- 11
     refine S_val (Y_inc rfl rfl (by omega)) ?_
     refine S_val (Y_move rfl) ?_
     refine S_nl rfl rfl ?_
     refine th_n ?_
     go_roundw  -- e2 of L2
     case rel =>
      refine ⟨?_, GL4⟩
      exact ⟨k + 1, rfl, by omega, by rw [htk]; exact B1⟩
     case measure =>
      exact dec_nat (by omega)
    · -- c2F
     replace hb2 := nb_tf hb2
     refine wp_exit ?_
     refine th_x ?_
     try clear GL4
     refine th_x ?_
     refine ib_e ?_
     refine th_n (hK9 _ _ ?_)
     clear hK12 K12 hK9 K9
     refine wp_seq_k fun K15 hK15 => ?_
     refine Sb 33 rfl ?_  -- 12
     refine S_val (Y_move rfl) ?_
     refine S_val (Y_assign rfl) ?_
     refine S_nl rfl rfl ?_
     refine th_n (hK15 _ _ ?_)
     clear hK15 K15
     refine wp_ret ?_
     refine ret_r1 rfl rfl ?_  -- r1
     rw [List.take_of_length_le (by omega)] at B1
     exact ⟨b1, rfl, by omega, B1, G⟩
set_option maxHeartbeats 400000 in
set_option maxRecDepth 20000 in
theorem impl_renamed_c (Pr Pr2 : Nat → Prop) (E F : Option Addr) (xs o : List Int) (e f N : Nat) (w : World) (hE : R1 Pr w E (ints xs)) (hF : R1 Pr2 w F (ints (namesL N o))) (hx : xs.length ≤ 1048576) (hr : ∀ x ∈ xs, x = -1 ∨ (0 ≤ x ∧ x < (N : Int))) (ho : ∀ x ∈ o, 0 ≤ x) :
    Calls Try.prog 100 #[.slice E xs.length e, .slice F N f] w (Ret fun v w' => ∃ A q cap, v = .slice A q cap ∧ q = xs.length ∧ OW (fun i => w.heap.size ≤ i) w' 3 1 A q cap (ints (xs.map (nameIn o))) ∧ Grow w w') := by
 refine enter Try.func100 rfl Try.ntmps100 (L := [_,_,_,_,_,_,_,_,_,_,_,_,_,_,_,_,_,_,_,_,_,_,_,_,_,_,_]) rfl ?_
 have G := Mod.refl No w
 have hE0 := hE
 have hF0 := hF
 refine wp_seq_k fun K1 hK1 => ?_
 refine Sb 27 rfl ?_  -- 0
 refine S_val (Y_assign rfl) ?_
 refine S_nl rfl rfl ?_
 refine th_n (hK1 _ _ ?_)
 clear hK1 K1
 refine wp_seq_k fun K2 hK2 => ?_
 refine Sb 27 rfl ?_  -- 1
 refine S_bs0 Try.underlying24 sz3 ?_
 intro b1 w1 fb1 g1 B1
 have lb1 := B1.lt
 replace hE := hE.grow g1
 replace hF := hF.grow g1
 replace G := G.grow g1
 have zg1 := g1.size
 refine S_val (Y_assign rfl) ?_
 refine S_nl rfl rfl ?_
 refine th_n (hK2 _ _ ?_)
 clear hK2 K2
 refine wp_seq_k fun K3 hK3 => ?_
 refine wp_seq_k fun K4 hK4 => ?_
 refine Sb 27 rfl ?_  -- 2
 refine S_val (Y_move rfl) ?_
 refine S_val (Y_len Try.underlying24 rfl) ?_
 refine S_val (Y_move rfl) ?_
 refine S_nl rfl rfl ?_
 refine th_n (hK4 _ _ ?_)
 clear hK4 K4
 refine wp_block ?_
 have O1 : OW (fun i => w.heap.size ≤ i) w1 3 1 (some ⟨b1, 0, none⟩) 0 0 (ints []) := OW.of_blk B1 rfl (by decide) (by omega)
 go_loopw [5, 11] (fun u5 u11 wr => (∃ (k q cap : Nat) (A1 : Option Addr), u11 = .int .i64 k ∧ u5 = .slice A1 q cap ∧ k ≤ xs.length ∧ q = k ∧ OW (fun i => w.heap.size ≤ i) wr 3 1 A1 q cap (ints ((xs.take k).map (nameIn o)))) ∧ Mod (fun i => w.heap.size ≤ i) w1 wr) (fun u5 u11 wr => xs.length - (intOf u11).toNat)  -- L1
 case atStart =>
  refine ⟨?_, Mod.refl _ _⟩
  exact ⟨0, 0, 0, _, rfl, rfl, by omega, rfl, O1⟩
 case round =>
  obtain ⟨w2, rfl⟩ : ∃ x : World, x = wr := ⟨_, rfl⟩
  obtain ⟨hrel, g2⟩ := hrel
  clear O1
  replace G := G.abv g2
  replace hE := hE0.grow G
  replace hF := hF0.grow G
  have zg2 := g2.size
  obtain ⟨k, q1, cap1, A1, rfl, rfl, hk, hq1, O1⟩ := hrel
  have GL2 := g2
  refine wp_seq_k fun K5 hK5 => ?_
  refine Sb 27 rfl ?_  -- 3
  refine S_val (Y_lss rfl rfl) ?_
  refine S_nl rfl rfl ?_
  refine th_n (hK5 _ _ ?_)
  clear hK5 K5
  refine wp_seq_k fun K6 hK6 => ?_
  refine S_if rfl (fun hb1 => ?_) (fun hb1 => ?_)  -- c1
  · -- c1T
   replace hb1 := nb_tt hb1
   have hk1 : k < xs.length := by omega
   obtain ⟨g2, o2, rfl, hp2, hc2⟩ := hE.int hk1
   have htk := List.take_succ_eq_append_getElem hk1
   refine wp_skip ?_
   refine th_n (hK6 _ _ ?_)
   clear hK6 K6
   refine wp_seq_k fun K7 hK7 => ?_
   refine wp_block ?_
   refine wp_seq_k fun K8 hK8 => ?_
   refine Sb 27 rfl ?_  -- 4
   refine S_val (Y_index Try.underlying24 sz3 rfl rfl (by first | assumption | omega)) ?_
   refine S_val (Y_load Try.underlying3 rfl rfl (by first | assumption)) ?_  -- l1
   refine S_val (Y_assign rfl) ?_
   refine S_nl rfl rfl ?_
   refine th_n (hK8 _ _ ?_)
   clear hK8 K8
   refine wp_seq_k fun K9 hK9 => ?_
   refine wp_seq_k fun K10 hK10 => ?_
   refine Sb 27 rfl ?_  -- 5
   refine S_val (Y_move rfl) ?_
   refine S_val (Y_geq rfl rfl) ?_
   refine S_nl rfl rfl ?_
   refine th_n (hK10 _ _ ?_)
   clear hK10 K10
   refine S_if rfl (fun hb2 => ?_) (fun hb2 => ?_)  -- c2
   · -- c2T
    replace hb2 := nb_tt hb2
    obtain ⟨n, hn⟩ := Int.eq_ofNat_of_zero_le hb2
    have hnN : n < N := by have := hr _ (List.getElem_mem hk1); omega
    rw [hn]
    rw [hn] at htk
    obtain ⟨g3, o3, rfl, hp3, hc3⟩ := hF.int (k := n) (by rw [namesL_len]; exact hnN)
    rw [namesL_at] at hc3
    refine Sb 27 rfl ?_  -- 6
    refine S_val (Y_move rfl) ?_
    refine S_val (Y_move rfl) ?_
    refine S_val (Y_index Try.underlying24 sz3 rfl rfl (by first | assumption | omega)) ?_
    refine S_val (Y_load Try.underlying3 rfl rfl (by first | assumption)) ?_  -- l2
    refine S_val (Y_assign rfl) ?_
    refine S_nl rfl rfl ?_
    refine th_n (hK9 _ _ ?_)
    clear hK9 K9
    refine Sb 27 rfl ?_  -- 7
    refine S_val (Y_move rfl) ?_
    refine S_val (Y_move rfl) ?_
    refine S_bs1 (cs := [_]) Try.underlying24 zr3 sz3 rfl rfl rfl ?_
    intro b3 w3 fb3 g3 B3
    have lb3 := B3.lt
    replace hE := hE.grow g3
    replace hF := hF.grow g3
    replace O1 := O1.grow g3
    replace G := G.grow g3
    replace GL2 := GL2.grow g3
    have zg3 := g3.size
    refine S_app Try.underlying24 zr3 sz3 by3 rfl rfl O1 rfl (Src.blk B3) (by simp [Value.oneCell']) (by omega) (Pr' := fun i => w.heap.size ≤ i) (fun i hi => hi) (by omega) ?_
    intro A4 cap4 w4 X4 m4
    replace O1 := X4
    rw [ints_app] at O1
    clear X4
    replace G := G.abv m4
    replace GL2 := GL2.trn m4
    replace hE := hE0.grow G
    replace hF := hF0.grow G
    have zm4 := m4.size
    refine S_val (Y_assign rfl) ?_
    refine S_nl rfl rfl ?_
    refine ib_n ?_
    refine th_n (hK7 _ _ ?_)
    clear hK7 K7
    refine Sb 27 rfl ?_  -- 8
    refine S_val (Y_inc rfl rfl (by omega)) ?_
    refine S_val (Y_move rfl) ?_
    refine S_nl rfl rfl ?_
    refine th_n ?_
    go_roundw  -- e1 of L1
    case rel =>
     refine ⟨?_, GL2⟩
     exact ⟨k + 1, _, _, _, rfl, rfl, by omega, by omega, by rw [htk, List.map_append]; exact O1⟩
    case measure =>
     exact dec_nat (by omega)
   · -- c2F
    replace hb2 := nb_tf hb2
    have hm1 : xs[k] = -1 := by have := hr _ (List.getElem_mem hk1); omega
    have hno : nameIn o (-1) = -1 := nameIn_no (fun hm => by have := ho _ hm; omega)
    rw [hm1]
    rw [hm1] at htk
    refine wp_skip ?_
    refine th_n (hK9 _ _ ?_)
    clear hK9 K9
    refine Sb 27 rfl ?_  -- 7
    refine S_val (Y_move rfl) ?_
    refine S_val (Y_move rfl) ?_
    refine S_bs1 (cs := [_]) Try.underlying24 zr3 sz3 rfl rfl rfl ?_
    intro b5 w5 fb5 g5 B5
    have lb5 := B5.lt
    replace hE := hE.grow g5
    replace hF := hF.grow g5
    replace O1 := O1.grow g5
    replace G := G.grow g5
    replace GL2 := GL2.grow g5
    have zg5 := g5.size
    refine S_app Try.underlying24 zr3 sz3 by3 rfl rfl O1 rfl (Src.blk B5) (by simp [Value.oneCell']) (by omega) (Pr' := fun i => w.heap.size ≤ i) (fun i hi => hi) (by omega) ?_
    intro A6 cap6 w6 X6 m6
    replace O1 := X6
    rw [ints_app] at O1
    clear X6
    replace G := G.abv m6
    replace GL2 := GL2.trn m6
    replace hE := hE0.grow G
    replace hF := hF0.grow G
    have zm6 := m6.size
    refine S_val (Y_assign rfl) ?_
    refine S_nl rfl rfl ?_
    refine ib_n ?_
    refine th_n (hK7 _ _ ?_)
    clear hK7 K7
    refine Sb 27 rfl ?_  -- 8
    refine S_val (Y_inc rfl rfl (by omega)) ?_
    refine S_val (Y_move rfl) ?_
    refine S_nl rfl rfl ?_
    refine th_n ?_
    go_roundw  -- e2 of L1
    case rel =>
     refine ⟨?_, GL2⟩
     exact ⟨k + 1, _, _, _, rfl, rfl, by omega, by omega, by rw [htk, List.map_append, List.map_singleton, hno]; exact O1⟩
    case measure =>
     exact dec_nat (by omega)
  · -- c1F
   replace hb1 := nb_tf hb1
   refine wp_exit ?_
   refine th_x ?_
   try clear GL2
   refine th_x ?_
   refine ib_e ?_
   refine th_n (hK3 _ _ ?_)
   clear hK6 K6 hK3 K3
   refine wp_seq_k fun K11 hK11 => ?_
   refine Sb 27 rfl ?_  -- 9
   refine S_val (Y_move rfl) ?_
   refine S_val (Y_assign rfl) ?_
   refine S_nl rfl rfl ?_
   refine th_n (hK11 _ _ ?_)
   clear hK11 K11
   refine wp_ret ?_
   refine ret_r1 rfl rfl ?_  -- r1
   have : k = xs.length := by omega
   subst this
   rw [List.take_length] at O1
   exact ⟨_, _, _, rfl, hq1, O1, G⟩
set_option maxHeartbeats 400000 in
set_option maxRecDepth 20000 in
theorem spec_l9Name_c (Pr : Nat → Prop) (E : Option Addr) (o : List Int) (e : Nat) (x : Int) (w : World) (hE : R1 Pr w E (ints o)) (ho : o.length ≤ 1048576) :
    Calls Try.prog 67 #[.slice E o.length e, .int .i64 x] w (Ret fun v w' => v = .int .i64 (nameIn o x) ∧ Grow w w') := by
 refine enter Try.func67 rfl Try.ntmps67 (L := [_,_,_,_,_,_,_,_,_,_,_,_,_,_,_,_,_,_,_]) rfl ?_
 have G := Mod.refl No w
 have hE0 := hE
 refine wp_seq_k fun K1 hK1 => ?_
 refine Sb 19 rfl ?_  -- 0
 refine S_val (Y_assign rfl) ?_
 refine S_nl rfl rfl ?_
 refine th_n (hK1 _ _ ?_)
 clear hK1 K1
 refine wp_seq_k fun K2 hK2 => ?_
 refine wp_seq_k fun K3 hK3 => ?_
 refine Sb 19 rfl ?_  -- 1
 refine S_val (Y_assign rfl) ?_
 refine S_nl rfl rfl ?_
 refine th_n (hK3 _ _ ?_)
 clear hK3 K3
 refine wp_block ?_
 go_loopw [5] (fun u5 wr => (∃ k : Nat, u5 = .int .i64 k ∧ k ≤ o.length ∧ x ∉ o.take k) ∧ Mod No w wr) (fun u5 wr => o.length - (intOf u5).toNat)  -- L1
 case atStart =>
  refine ⟨?_, Mod.refl _ _⟩
  exact ⟨0, rfl, by omega, by simp⟩
 case round =>
  obtain ⟨w1, rfl⟩ : ∃ x : World, x = wr := ⟨_, rfl⟩
  obtain ⟨hrel, g1⟩ := hrel
  replace hE := hE.grow g1
  replace G := G.grow g1
  have zg1 := g1.size
  obtain ⟨k, rfl, hk, hs⟩ := hrel
  have GL1 := g1
  refine wp_seq_k fun K4 hK4 => ?_
  refine wp_seq_k fun K5 hK5 => ?_
  refine Sb 19 rfl ?_  -- 2
  refine S_val (Y_move rfl) ?_
  refine S_val (Y_move rfl) ?_
  refine S_val (Y_len Try.underlying24 rfl) ?_
  refine S_val (Y_lss rfl rfl) ?_
  refine S_nl rfl rfl ?_
  refine th_n (hK5 _ _ ?_)
  clear hK5 K5
  refine S_if rfl (fun hb1 => ?_) (fun hb1 => ?_)  -- c1
  · -- c1T
   replace hb1 := nb_tt hb1
   have hk1 : k < o.length := by omega
   obtain ⟨g2, o2, rfl, hp2, hc2⟩ := hE.int hk1
   refine wp_skip ?_
   refine th_n (hK4 _ _ ?_)
   clear hK4 K4
   refine wp_seq_k fun K6 hK6 => ?_
   refine wp_block ?_
   refine wp_seq_k fun K7 hK7 => ?_
   refine Sb 19 rfl ?_  -- 4
   refine S_val (Y_move rfl) ?_
   refine S_val (Y_move rfl) ?_
   refine S_val (Y_index Try.underlying24 sz3 rfl rfl (by first | assumption | omega)) ?_
   refine S_val (Y_load Try.underlying3 rfl rfl (by first | assumption)) ?_  -- l1
   refine S_val (Y_move rfl) ?_
   refine S_val (Y_eql rfl rfl) ?_
   refine S_nl rfl rfl ?_
   refine th_n (hK7 _ _ ?_)
   clear hK7 K7
   refine S_if rfl (fun hb2 => ?_) (fun hb2 => ?_)  -- c2
   · -- c2T
    replace hb2 := nb_tt hb2
    refine wp_seq_k fun K8 hK8 => ?_
    refine Sb 19 rfl ?_  -- 5
    refine S_val (Y_move rfl) ?_
    refine S_val (Y_assign rfl) ?_
    refine S_nl rfl rfl ?_
    refine th_n (hK8 _ _ ?_)
    clear hK8 K8
    refine wp_ret ?_
    refine ib_r ?_
    refine th_r ?_
    try clear GL1
    refine th_r ?_
    refine ib_r ?_
    refine th_r ?_
    clear hK6 K6 hK2 K2
    refine ret_r1 rfl rfl ?_  -- r1
    exact ⟨by rw [nameIn_at hk1 hs hb2], G⟩
   · -- c2F
    replace hb2 := nb_tf hb2
    refine wp_skip ?_
    refine ib_n ?_
    refine th_n (hK6 _ _ ?_)
    clear hK6 K6
    refine Sb 19 rfl ?_  -- 3
    refine S_val (Y_move rfl) ?_
    refine S_val (Y_inc rfl rfl (by omega)) ?_
    refine S_val (Y_assign rfl) ?_
    refine S_nl rfl rfl ?_
    refine th_n ?_
    go_roundw  -- e1 of L1
    case rel =>
     refine ⟨?_, GL1⟩
     exact ⟨k + 1, rfl, by omega, notMem_take hk1 hs hb2⟩
    case measure =>
     exact dec_nat (by omega)
  · -- c1F
   replace hb1 := nb_tf hb1
   refine wp_exit ?_
   refine th_x ?_
   try clear GL1
   refine th_x ?_
   refine ib_e ?_
   refine th_n (hK2 _ _ ?_)
   clear hK4 K4 hK2 K2
   refine wp_seq_k fun K9 hK9 => ?_
   refine Sb 19 rfl ?_  -- 6
   refine S_val (Y_assign rfl) ?_
   refine S_nl rfl rfl ?_
   refine th_n (hK9 _ _ ?_)
   clear hK9 K9
   refine wp_ret ?_
   refine ret_r1 rfl rfl ?_  -- r2
   rw [List.take_of_length_le (by omega)] at hs
   exact ⟨by rw [nameIn_no hs], G⟩
end
/-! WalkT -/
section
open Go Go.RowKit
attribute [local irreducible] wpList wpAnyH Code.wp dOp
set_option maxHeartbeats 400000 in
set_option maxRecDepth 20000 in
theorem impl_slideOrder_c (Pr : Nat → Prop) (A B : Option Addr) (h : LH) (c d : Nat) (w : World) (hA : RC Pr w A h.cells) (hB : R1 Pr w B (ints h.roots)) (hz : hsize h ≤ 1048576) (va : Valid h) :
    Calls Try.prog 65 #[.agg #[.slice A h.cells.length c, .slice B h.roots.length d]] w (Ret fun v w' => ∃ A1 q cap, v = .slice A1 q cap ∧ q = (slideL h).length ∧ OI (fun i => w.heap.size ≤ i) w' 3 A1 (ints (slideL h)) ∧ Grow w w') := by
 have hz1 := hsize_cells h
 have hz2 := hsize_roots h
 have hl := va.leads
 have h40 := va.le
 have hr4 := va.roots4
 refine enter Try.func65 rfl Try.ntmps65 (L := [_,_,_,_,_,_,_,_,_,_,_,_,_,_,_,_,_,_,_,_,_,_,_,_]) rfl ?_
 have G := Mod.refl No w
 have hA0 := hA
 have hB0 := hB
 refine wp_seq_k fun K1 hK1 => ?_
 refine Sb 24 rfl ?_  -- 0
 refine S_box (cs := [_, _]) rfl rfl ?_
 intro b1 w1 fb1 g1 B1
 have lb1 := B1.lt
 replace hA := hA.grow g1
 replace hB := hB.grow g1
 replace G := G.grow g1
 have zg1 := g1.size
 refine S_val (Y_assign rfl) ?_
 refine S_nl rfl rfl ?_
 refine th_n (hK1 _ _ ?_)
 clear hK1 K1
 refine wp_seq_k fun K2 hK2 => ?_
 refine Sb 24 rfl ?_  -- 1
 refine S_bs0 Try.underlying24 sz3 ?_
 intro b2 w2 fb2 g2 B2
 have lb2 := B2.lt
 replace hA := hA.grow g2
 replace hB := hB.grow g2
 replace G := G.grow g2
 replace B1 := B1.grow g2
 have zg2 := g2.size
 refine S_val (Y_assign rfl) ?_
 refine S_nl rfl rfl ?_
 refine th_n (hK2 _ _ ?_)
 clear hK2 K2
 refine wp_seq_k fun K3 hK3 => ?_
 refine Sb 24 rfl ?_  -- 2
 refine S_val (Y_loadS Try.underlying26 rfl sz26 rfl (B1.row (by rfl))) ?_  -- l1
 refine S_call rfl en71 (impl_reachable_c _ _ _ _ _ _ _ (by assumption) (by assumption) (by omega) (by assumption)) ?_  -- k1 impl.reachable
 rintro v3 w3 ⟨s3, rfl, hs3, hr3, g3⟩
 replace hA := hA.grow g3
 replace hB := hB.grow g3
 replace G := G.grow g3
 replace B1 := B1.grow g3
 replace B2 := B2.grow g3
 have zg3 := g3.size
 refine S_val (Y_assign rfl) ?_
 refine S_nl rfl rfl ?_
 refine th_n (hK3 _ _ ?_)
 clear hK3 K3
 refine wp_seq_k fun K4 hK4 => ?_
 refine wp_seq_k fun K5 hK5 => ?_
 refine Sb 24 rfl ?_  -- 3
 refine S_val (Y_field Try.underlying26 rfl fz26_0 (by decide) rfl) ?_
 refine S_val (Y_load Try.underlying23 rfl rfl (B1.at (by rfl))) ?_  -- l2
 refine S_val (Y_len Try.underlying23 rfl) ?_
 refine S_val (Y_move rfl) ?_
 refine S_nl rfl rfl ?_
 refine th_n (hK5 _ _ ?_)
 clear hK5 K5
 refine wp_block ?_
 obtain ⟨wz, hwz⟩ : ∃ x, x = w3.heap.size := ⟨_, rfl⟩
 have O1 : OW (fun i => i = b2 ∨ wz ≤ i) w3 3 1 (some ⟨b2, 0, none⟩) 0 0 (ints []) := OW.of_blk B2 rfl (by decide) (.inl rfl)
 go_loopw [3, 12] (fun u3 u12 wr => (∃ (k q cap : Nat) (A1 : Option Addr), u12 = .int .i64 k ∧ u3 = .slice A1 q cap ∧ k ≤ h.cells.length ∧ q = (selL k (rB h)).length ∧ OW (fun i => i = b2 ∨ wz ≤ i) wr 3 1 A1 q cap (ints (selL k (rB h)))) ∧ Mod (fun i => i = b2 ∨ wz ≤ i) w3 wr) (fun u3 u12 wr => h.cells.length - (intOf u12).toNat)  -- L1
 case atStart =>
  refine ⟨?_, Mod.refl _ _⟩
  exact ⟨0, 0, 0, _, rfl, rfl, by omega, rfl, O1⟩
 case round =>
  obtain ⟨w4, rfl⟩ : ∃ x : World, x = wr := ⟨_, rfl⟩
  obtain ⟨hrel, g4⟩ := hrel
  clear O1
  replace G := G.abv g4
  replace hA := hA0.grow G
  replace hB := hB0.grow G
  replace B1 := B1.md g4
  have zg4 := g4.size
  obtain ⟨k, q1, cap1, A1, rfl, rfl, hk, hq1, O1⟩ := hrel
  have hsl := selL_le k (rB h)
  have GL4 := g4
  refine wp_seq_k fun K6 hK6 => ?_
  refine Sb 24 rfl ?_  -- 4
  refine S_val (Y_lss rfl rfl) ?_
  refine S_nl rfl rfl ?_
  refine th_n (hK6 _ _ ?_)
  clear hK6 K6
  refine wp_seq_k fun K7 hK7 => ?_
  refine S_if rfl (fun hb1 => ?_) (fun hb1 => ?_)  -- c1
  · -- c1T
   replace hb1 := nb_tt hb1
   have hk1 : k < h.cells.length := by omega
   refine wp_skip ?_
   refine th_n (hK7 _ _ ?_)
   clear hK7 K7
   refine wp_seq_k fun K8 hK8 => ?_
   refine wp_block ?_
   refine wp_seq_k fun K9 hK9 => ?_
   refine Sb 24 rfl ?_  -- 5
   refine S_val (Y_move rfl) ?_
   refine S_val (Y_assign rfl) ?_
   refine S_nl rfl rfl ?_
   refine th_n (hK9 _ _ ?_)
   clear hK9 K9
   refine wp_seq_k fun K10 hK10 => ?_
   refine Sb 24 rfl ?_  -- 6
   refine S_val (Y_move rfl) ?_
   refine S_val (Y_move rfl) ?_
   refine S_call rfl en86 (impl_cellSet_has_c _ _ _ (by assumption)) ?_  -- k2 (impl.cellSet).has
   rintro v w' ⟨rfl, rfl⟩
   refine S_nl rfl rfl ?_
   refine th_n (hK10 _ _ ?_)
   clear hK10 K10
   refine S_if rfl (fun hb2 => ?_) (fun hb2 => ?_)  -- c2
   · -- c2T
    first | with_reducible (replace hb2 := nb_nt hb2) | with_reducible (replace hb2 := nb_tt hb2) | with_reducible (replace hb2 := nb_bt hb2) | skip
    rw [hasB_nat, rB_list hr3 hk1] at hb2
    refine Sb 24 rfl ?_  -- 7
    refine S_val (Y_move rfl) ?_
    refine S_val (Y_move rfl) ?_
    refine S_bs1 (cs := [_]) Try.underlying24 zr3 sz3 rfl rfl rfl ?_
    intro b6 w6 fb6 g6 B6
    have lb6 := B6.lt
    replace hA := hA.grow g6
    replace hB := hB.grow g6
    replace O1 := O1.grow g6
    replace G := G.grow g6
    replace GL4 := GL4.grow g6
    replace B1 := B1.grow g6
    have zg6 := g6.size
    refine S_app Try.underlying24 zr3 sz3 by3 rfl rfl O1 rfl (Src.blk B6) (by simp [Value.oneCell']) (by omega) (Pr' := fun i => i = b2 ∨ wz ≤ i) (fun i hi => hi) (by omega) ?_
    intro A7 cap7 w7 X7 m7
    replace O1 := X7
    rw [ints_app] at O1
    clear X7
    replace G := G.abv m7
    replace GL4 := GL4.trn m7
    replace hA := hA0.grow G
    replace hB := hB0.grow G
    replace B1 := B1.md m7
    have zm7 := m7.size
    refine S_val (Y_assign rfl) ?_
    refine S_nl rfl rfl ?_
    refine ib_n ?_
    refine th_n (hK8 _ _ ?_)
    clear hK8 K8
    refine Sb 24 rfl ?_  -- 8
    refine S_val (Y_inc rfl rfl (by omega)) ?_
    refine S_val (Y_move rfl) ?_
    refine S_nl rfl rfl ?_
    refine th_n ?_
    go_roundw  -- e1 of L1
    case rel =>
     refine ⟨?_, GL4⟩
     exact ⟨k + 1, _, _, _, rfl, rfl, by omega, by rw [selL_yes hb2, List.length_append, ← hq1]; rfl, by rw [selL_yes hb2]; exact O1⟩
    case measure =>
     exact dec_nat (by omega)
   · -- c2F
    first | with_reducible (replace hb2 := nb_nf hb2) | with_reducible (replace hb2 := nb_tf hb2) | with_reducible (replace hb2 := nb_bf hb2) | skip
    rw [hasB_nat, rB_list hr3 hk1] at hb2
    refine wp_skip ?_
    refine ib_n ?_
    refine th_n (hK8 _ _ ?_)
    clear hK8 K8
    refine Sb 24 rfl ?_  -- 8
    refine S_val (Y_inc rfl rfl (by omega)) ?_
    refine S_val (Y_move rfl) ?_
    refine S_nl rfl rfl ?_
    refine th_n ?_
    go_roundw  -- e2 of L1
    case rel =>
     refine ⟨?_, GL4⟩
     exact ⟨k + 1, _, _, _, rfl, rfl, by omega, by rw [selL_no hb2]; exact hq1, by rw [selL_no hb2]; exact O1⟩
    case measure =>
     exact dec_nat (by omega)
  · -- c1F
   replace hb1 := nb_tf hb1
   refine wp_exit ?_
   refine th_x ?_
   try clear GL4
   refine th_x ?_
   refine ib_e ?_
   refine th_n (hK4 _ _ ?_)
   clear hK7 K7 hK4 K4
   refine wp_seq_k fun K11 hK11 => ?_
   refine Sb 24 rfl ?_  -- 9
   refine S_val (Y_move rfl) ?_
   refine S_val (Y_assign rfl) ?_
   refine S_nl rfl rfl ?_
   refine th_n (hK11 _ _ ?_)
   clear hK11 K11
   refine wp_ret ?_
   refine ret_r1 rfl rfl ?_  -- r1
   have hkN : k = h.cells.length := by omega
   rw [hkN] at hq1 O1
   exact ⟨_, _, _, rfl, hq1, O1.oi.weak (fun i hi => by omega), G⟩
set_option maxHeartbeats 400000 in
set_option maxRecDepth 20000 in
theorem spec_l16Order_c (Pr : Nat → Prop) (A B : Option Addr) (h : LH) (c d : Nat) (w : World) (hA : RC Pr w A h.cells) (hB : R1 Pr w B (ints h.roots)) (hz : hsize h ≤ 1048576) (va : Valid h) :
    Calls Try.prog 66 #[.agg #[.slice A h.cells.length c, .slice B h.roots.length d]] w (Ret fun v w' => ∃ A1 q cap, v = .slice A1 q cap ∧ q = (slideL h).length ∧ OI (fun i => w.heap.size ≤ i) w' 3 A1 (ints (slideL h)) ∧ Grow w w') := by
 have hz1 := hsize_cells h
 have hz2 := hsize_roots h
 have hl := va.leads
 have h40 := va.le
 have hr4 := va.roots4
 refine enter Try.func66 rfl Try.ntmps66 (L := [_,_,_,_,_,_,_,_,_,_,_,_,_,_,_,_,_,_,_,_,_,_,_,_,_,_]) rfl ?_
 have G := Mod.refl No w
 have hA0 := hA
 have hB0 := hB
 refine wp_seq_k fun K1 hK1 => ?_
 refine Sb 26 rfl ?_  -- 0
 refine S_box (cs := [_, _]) rfl rfl ?_
 intro b1 w1 fb1 g1 B1
 have lb1 := B1.lt
 replace hA := hA.grow g1
 replace hB := hB.grow g1
 replace G := G.grow g1
 have zg1 := g1.size
 refine S_val (Y_assign rfl) ?_
 refine S_nl rfl rfl ?_
 refine th_n (hK1 _ _ ?_)
 clear hK1 K1
 refine wp_seq_k fun K2 hK2 => ?_
 refine Sb 26 rfl ?_  -- 1
 refine S_bs0 Try.underlying24 sz3 ?_
 intro b2 w2 fb2 g2 B2
 have lb2 := B2.lt
 replace hA := hA.grow g2
 replace hB := hB.grow g2
 replace G := G.grow g2
 replace B1 := B1.grow g2
 have zg2 := g2.size
 refine S_val (Y_assign rfl) ?_
 refine S_nl rfl rfl ?_
 refine th_n (hK2 _ _ ?_)
 clear hK2 K2
 refine wp_seq_k fun K3 hK3 => ?_
 refine Sb 26 rfl ?_  -- 2
 refine S_val (Y_loadS Try.underlying26 rfl sz26 rfl (B1.row (by rfl))) ?_  -- l1
 refine S_val (Y_field Try.underlying26 rfl fz26_1 (by decide) rfl) ?_
 refine S_val (Y_load Try.underlying24 rfl rfl (B1.at (by rfl))) ?_  -- l2
 refine S_call rfl en91 (spec_l7Reach_c _ _ _ _ _ _ _ _ _ _ _ (by assumption) (by assumption) (by omega) (by omega) (by assumption)) ?_  -- k1 spec.l7Reach
 rintro v3 w3 ⟨b3, rfl, fb3, B3, g3⟩
 replace hA := hA.grow g3
 replace hB := hB.grow g3
 replace G := G.grow g3
 replace B1 := B1.grow g3
 replace B2 := B2.grow g3
 have zg3 := g3.size
 have lb3 := B3.lt
 have hRB := R1.of_blkE B3
 refine S_val (Y_assign rfl) ?_
 refine S_nl rfl rfl ?_
 refine th_n (hK3 _ _ ?_)
 clear hK3 K3
 refine wp_seq_k fun K4 hK4 => ?_
 refine wp_seq_k fun K5 hK5 => ?_
 refine Sb 26 rfl ?_  -- 3
 refine S_val (Y_assign rfl) ?_
 refine S_nl rfl rfl ?_
 refine th_n (hK5 _ _ ?_)
 clear hK5 K5
 refine wp_block ?_
 obtain ⟨wz, hwz⟩ : ∃ x, x = w3.heap.size := ⟨_, rfl⟩
 have O1 : OW (fun i => i = b2 ∨ wz ≤ i) w3 3 1 (some ⟨b2, 0, none⟩) 0 0 (ints []) := OW.of_blk B2 rfl (by decide) (.inl rfl)
 go_loopw [3, 5] (fun u3 u5 wr => (∃ (k q cap : Nat) (A1 : Option Addr), u5 = .int .i64 k ∧ u3 = .slice A1 q cap ∧ k ≤ h.cells.length ∧ q = (selL k (rB h)).length ∧ OW (fun i => i = b2 ∨ wz ≤ i) wr 3 1 A1 q cap (ints (selL k (rB h)))) ∧ Mod (fun i => i = b2 ∨ wz ≤ i) w3 wr) (fun u3 u5 wr => h.cells.length - (intOf u5).toNat)  -- L1
 case atStart =>
  refine ⟨?_, Mod.refl _ _⟩
  exact ⟨0, 0, 0, _, rfl, rfl, by omega, rfl, O1⟩
 case round =>
  obtain ⟨w4, rfl⟩ : ∃ x : World, x = wr := ⟨_, rfl⟩
  obtain ⟨hrel, g4⟩ := hrel
  clear O1
  replace G := G.abv g4
  replace hA := hA0.grow G
  replace hB := hB0.grow G
  replace hRB := hRB.md g4
  replace B1 := B1.md g4
  replace B3 := B3.md g4
  have zg4 := g4.size
  obtain ⟨k, q1, cap1, A1, rfl, rfl, hk, hq1, O1⟩ := hrel
  have hsl := selL_le k (rB h)
  have GL4 := g4
  refine wp_seq_k fun K6 hK6 => ?_
  refine wp_seq_k fun K7 hK7 => ?_
  refine Sb 26 rfl ?_  -- 4
  refine S_val (Y_move rfl) ?_
  refine S_val (Y_move rfl) ?_
  refine S_val (Y_len Try.underlying32 rfl) ?_
  refine S_val (Y_lss rfl rfl) ?_
  refine S_nl rfl rfl ?_
  refine th_n (hK7 _ _ ?_)
  clear hK7 K7
  refine S_if rfl (fun hb1 => ?_) (fun hb1 => ?_)  -- c1
  · -- c1T
   replace hb1 := nb_tt hb1
   have hk1 : k < h.cells.length := by omega
   have hk3 : k < (mB h.cells.length (orderL h.cells h.roots nn)).length := by rw [mB_len]; exact hk1
   obtain ⟨g4, o4, e4, hp4, hc4⟩ := hRB.bool hk3
   cases e4
   have hme : (mB h.cells.length (orderL h.cells h.roots nn))[k] = rB h k := by simp [mB, rB]
   rw [hme] at hc4
   refine wp_skip ?_
   refine th_n (hK6 _ _ ?_)
   clear hK6 K6
   refine wp_seq_k fun K8 hK8 => ?_
   refine wp_block ?_
   refine wp_seq_k fun K9 hK9 => ?_
   refine Sb 26 rfl ?_  -- 6
   refine S_val (Y_move rfl) ?_
   refine S_val (Y_move rfl) ?_
   refine S_val (Y_index Try.underlying32 sz4 rfl rfl (by first | assumption | omega)) ?_
   refine S_val (Y_load Try.underlying4 rfl rfl (by first | assumption | exact B1.at (by rfl) | exact B3.at (by rfl))) ?_  -- l3
   refine S_nl rfl rfl ?_
   refine th_n (hK9 _ _ ?_)
   clear hK9 K9
   refine S_if rfl (fun hb2 => ?_) (fun hb2 => ?_)  -- c2
   · -- c2T
    first | with_reducible (replace hb2 := nb_nt hb2) | with_reducible (replace hb2 := nb_tt hb2) | with_reducible (replace hb2 := nb_bt hb2) | skip
    refine Sb 26 rfl ?_  -- 7
    refine S_val (Y_move rfl) ?_
    refine S_val (Y_move rfl) ?_
    refine S_bs1 (cs := [_]) Try.underlying24 zr3 sz3 rfl rfl rfl ?_
    intro b5 w5 fb5 g5 B5
    have lb5 := B5.lt
    replace hA := hA.grow g5
    replace hB := hB.grow g5
    replace hRB := hRB.grow g5
    replace O1 := O1.grow g5
    replace G := G.grow g5
    replace GL4 := GL4.grow g5
    replace B1 := B1.grow g5
    replace B3 := B3.grow g5
    have zg5 := g5.size
    refine S_app Try.underlying24 zr3 sz3 by3 rfl rfl O1 rfl (Src.blk B5) (by simp [Value.oneCell']) (by omega) (Pr' := fun i => i = b2 ∨ wz ≤ i) (fun i hi => hi) (by omega) ?_
    intro A6 cap6 w6 X6 m6
    replace O1 := X6
    rw [ints_app] at O1
    clear X6
    replace G := G.abv m6
    replace GL4 := GL4.trn m6
    replace hA := hA0.grow G
    replace hB := hB0.grow G
    replace hRB := hRB.md m6
    replace B1 := B1.md m6
    replace B3 := B3.md m6
    have zm6 := m6.size
    refine S_val (Y_assign rfl) ?_
    refine S_nl rfl rfl ?_
    refine ib_n ?_
    refine th_n (hK8 _ _ ?_)
    clear hK8 K8
    refine Sb 26 rfl ?_  -- 5
    refine S_val (Y_move rfl) ?_
    refine S_val (Y_inc rfl rfl (by omega)) ?_
    refine S_val (Y_assign rfl) ?_
    refine S_nl rfl rfl ?_
    refine th_n ?_
    go_roundw  -- e1 of L1
    case rel =>
     refine ⟨?_, GL4⟩
     exact ⟨k + 1, _, _, _, rfl, rfl, by omega, by rw [selL_yes hb2, List.length_append, ← hq1]; rfl, by rw [selL_yes hb2]; exact O1⟩
    case measure =>
     exact dec_nat (by omega)
   · -- c2F
    first | with_reducible (replace hb2 := nb_nf hb2) | with_reducible (replace hb2 := nb_tf hb2) | with_reducible (replace hb2 := nb_bf hb2) | skip
    refine wp_skip ?_
    refine ib_n ?_
    refine th_n (hK8 _ _ ?_)
    clear hK8 K8
    refine Sb 26 rfl ?_  -- 5
    refine S_val (Y_move rfl) ?_
    refine S_val (Y_inc rfl rfl (by omega)) ?_
    refine S_val (Y_assign rfl) ?_
    refine S_nl rfl rfl ?_
    refine th_n ?_
    go_roundw  -- e2 of L1
    case rel =>
     refine ⟨?_, GL4⟩
     exact ⟨k + 1, _, _, _, rfl, rfl, by omega, by rw [selL_no hb2]; exact hq1, by rw [selL_no hb2]; exact O1⟩
    case measure =>
     exact dec_nat (by omega)
  · -- c1F
   replace hb1 := nb_tf hb1
   refine wp_exit ?_
   refine th_x ?_
   try clear GL4
   refine th_x ?_
   refine ib_e ?_
   refine th_n (hK4 _ _ ?_)
   clear hK6 K6 hK4 K4
   refine wp_seq_k fun K10 hK10 => ?_
   refine Sb 26 rfl ?_  -- 8
   refine S_val (Y_move rfl) ?_
   refine S_val (Y_assign rfl) ?_
   refine S_nl rfl rfl ?_
   refine th_n (hK10 _ _ ?_)
   clear hK10 K10
   refine wp_ret ?_
   refine ret_r1 rfl rfl ?_  -- r1
   have hkN : k = h.cells.length := by omega
   rw [hkN] at hq1 O1
   exact ⟨_, _, _, rfl, hq1, O1.oi.weak (fun i hi => by omega), G⟩
set_option maxHeartbeats 400000 in
set_option maxRecDepth 20000 in
theorem impl_CopyForward_c (Pr : Nat → Prop) (A B : Option Addr) (h : LH) (c d : Nat) (w : World) (hA : RC Pr w A h.cells) (hB : R1 Pr w B (ints h.roots)) (hz : hsize h ≤ 1048576) :
    Calls Try.prog 23 #[.agg #[.slice A h.cells.length c, .slice B h.roots.length d]] w (Ret fun v w' => ∃ A1 q cap, v = .slice A1 q cap ∧ q = (fwdV h).length ∧ OI (fun i => w.heap.size ≤ i) w' 3 A1 (ints (fwdV h)) ∧ Grow w w') := by
 have hz1 := hsize_cells h
 have hz2 := hsize_roots h
 refine enter Try.func23 rfl Try.ntmps23 (L := [_,_,_,_,_,_,_,_,_,_,_,_]) rfl ?_
 have G := Mod.refl No w
 have hA0 := hA
 have hB0 := hB
 refine wp_seq_k fun K1 hK1 => ?_
 refine Sb 12 rfl ?_  -- 0
 refine S_box (cs := [_, _]) rfl rfl ?_
 intro b1 w1 fb1 g1 B1
 have lb1 := B1.lt
 replace hA := hA.grow g1
 replace hB := hB.grow g1
 replace G := G.grow g1
 have zg1 := g1.size
 refine S_val (Y_assign rfl) ?_
 refine S_nl rfl rfl ?_
 refine th_n (hK1 _ _ ?_)
 clear hK1 K1
 refine wp_seq_k fun K2 hK2 => ?_
 refine wp_seq_k fun K3 hK3 => ?_
 refine Sb 12 rfl ?_  -- 1
 refine S_val (Y_loadS Try.underlying26 rfl sz26 rfl (B1.row (by rfl))) ?_  -- l1
 refine S_call rfl en63 (impl_HeapValid_c _ _ _ _ _ _ _ (by assumption) (by assumption) (by omega)) ?_  -- k1 impl.HeapValid
 rintro v2 w2 ⟨rfl, g2⟩
 replace hA := hA.grow g2
 replace hB := hB.grow g2
 replace G := G.grow g2
 replace B1 := B1.grow g2
 have zg2 := g2.size
 refine S_val (Y_not rfl) ?_
 refine S_nl rfl rfl ?_
 refine th_n (hK3 _ _ ?_)
 clear hK3 K3
 refine S_if rfl (fun hb1 => ?_) (fun hb1 => ?_)  -- c1
 · -- c1T
  first | with_reducible (replace hb1 := nb_nt hb1) | with_reducible (replace hb1 := nb_tt hb1) | with_reducible (replace hb1 := nb_bt hb1) | skip
  refine wp_seq_k fun K4 hK4 => ?_
  refine Sb 12 rfl ?_  -- 2
  refine S_val (Y_assign rfl) ?_
  refine S_nl rfl rfl ?_
  refine th_n (hK4 _ _ ?_)
  clear hK4 K4
  refine wp_ret ?_
  refine th_r ?_
  clear hK2 K2
  refine ret_r1 rfl rfl ?_  -- r1
  exact ⟨_, _, _, rfl, by rw [fwdV_f hb1]; rfl, by rw [fwdV_f hb1]; exact OI.nil _ _ _ _, G⟩
 · -- c1F
  first | with_reducible (replace hb1 := nb_nf hb1) | with_reducible (replace hb1 := nb_tf hb1) | with_reducible (replace hb1 := nb_bf hb1) | skip
  have va := valid_iff.1 hb1
  have hl := va.leads
  have h40 := va.le
  have hr4 := va.roots4
  refine wp_skip ?_
  refine th_n (hK2 _ _ ?_)
  clear hK2 K2
  refine wp_seq_k fun K5 hK5 => ?_
  refine D_start 7 12 (fun w => Mod (No) w) follows rfl rfl ?_  -- d1 r3
  intro w3 g3
  replace hA := hA.grow g3
  replace hB := hB.grow g3
  replace G := G.grow g3
  replace B1 := B1.grow g3
  have zg3 := g3.size
  have GS3 := Mod.refl (No) w3
  have B1d3 := B1
  refine Dq (i := 0) rfl GS3 (fun _ hs => Y_loadS Try.underlying26 rfl sz26 rfl (by first | exact hs.cells0 (B1.row (by rfl)))) ?_
  refine Dq (i := 2) rfl GS3 (fun _ _ => Y_field Try.underlying26 rfl fz26_0 (by decide) rfl) ?_
  refine Dq (i := 3) rfl GS3 (fun _ hs => Y_load Try.underlying23 rfl rfl (hs.cell0 (B1.at (by rfl)))) ?_
  refine Dq (i := 4) rfl GS3 (fun _ _ => Y_len Try.underlying23 rfl) ?_
  refine D_1 (i := 1) (by kernel_rfl) ?_
  refine E_call rfl rfl en73 (impl_metOrder_c _ _ _ _ _ _ _ (by assumption) (by assumption) (by omega) (by assumption) (by omega)) ?_  -- k2 impl.metOrder
  rintro v4 w4 ⟨A4, q4, cap4, rfl, hq4, O4, g4⟩
  replace hA := hA.grow g4
  replace hB := hB.grow g4
  replace G := G.grow g4
  replace GS3 := GS3.grow g4
  replace B1 := B1.grow g4
  have zg4 := g4.size
  subst hq4
  replace O4 := O4.lt
  have hbn := (orderL_bnd hl)
  have hR4 := O4.r1
  refine ⟨GS3, ?_⟩
  refine D_1 (i := 5) (by kernel_rfl) ?_
  refine E_call rfl rfl en64 (impl_numbersIn_c _ _ _ _ _ _ (by assumption) hbn (by omega)) ?_  -- k3 impl.numbersIn
  rintro v5 w5 ⟨b5, rfl, fb5, B5, g5⟩
  replace hA := hA.grow g5
  replace hB := hB.grow g5
  replace O4 := O4.grow g5
  replace hR4 := hR4.grow g5
  replace G := G.grow g5
  replace GS3 := GS3.grow g5
  replace B1 := B1.grow g5
  have zg5 := g5.size
  have lb5 := B5.lt
  refine ⟨GS3, ?_⟩
  refine Dq (i := 6) rfl GS3 (fun _ _ => Y_assign rfl) ?_
  refine D_en (by kernel_rfl) rfl rfl ?_
  refine th_n (hK5 _ _ ?_)
  clear hK5 K5
  refine wp_ret ?_
  refine ret_r1 rfl rfl ?_  -- r2
  exact ⟨_, _, _, rfl, by rw [fwdV_t hb1, namesL_len], by rw [fwdV_t hb1]; exact OI.of_blk' (by assumption) (by omega), G⟩
set_option maxHeartbeats 400000 in
set_option maxRecDepth 20000 in
theorem spec_CopyForward_c (Pr : Nat → Prop) (A B : Option Addr) (h : LH) (c d : Nat) (w : World) (hA : RC Pr w A h.cells) (hB : R1 Pr w B (ints h.roots)) (hz : hsize h ≤ 1048576) :
    Calls Try.prog 24 #[.agg #[.slice A h.cells.length c, .slice B h.roots.length d]] w (Ret fun v w' => ∃ A1 q cap, v = .slice A1 q cap ∧ q = (fwdV h).length ∧ OI (fun i => w.heap.size ≤ i) w' 3 A1 (ints (fwdV h)) ∧ Grow w w') := by
 have hz1 := hsize_cells h
 have hz2 := hsize_roots h
 refine enter Try.func24 rfl Try.ntmps24 (L := [_,_,_,_,_,_,_,_,_,_,_,_,_,_,_,_,_,_,_,_,_,_,_,_,_,_,_]) rfl ?_
 have G := Mod.refl No w
 have hA0 := hA
 have hB0 := hB
 refine wp_seq_k fun K1 hK1 => ?_
 refine Sb 27 rfl ?_  -- 0
 refine S_box (cs := [_, _]) rfl rfl ?_
 intro b1 w1 fb1 g1 B1
 have lb1 := B1.lt
 replace hA := hA.grow g1
 replace hB := hB.grow g1
 replace G := G.grow g1
 have zg1 := g1.size
 refine S_val (Y_assign rfl) ?_
 refine S_nl rfl rfl ?_
 refine th_n (hK1 _ _ ?_)
 clear hK1 K1
 refine wp_seq_k fun K2 hK2 => ?_
 refine Sb 27 rfl ?_  -- 1
 refine S_bs0 Try.underlying24 sz3 ?_
 intro b2 w2 fb2 g2 B2
 have lb2 := B2.lt
 replace hA := hA.grow g2
 replace hB := hB.grow g2
 replace G := G.grow g2
 replace B1 := B1.grow g2
 have zg2 := g2.size
 refine S_val (Y_assign rfl) ?_
 refine S_nl rfl rfl ?_
 refine th_n (hK2 _ _ ?_)
 clear hK2 K2
 refine wp_seq_k fun K3 hK3 => ?_
 refine wp_seq_k fun K4 hK4 => ?_
 refine Sb 27 rfl ?_  -- 2
 refine S_val (Y_loadS Try.underlying26 rfl sz26 rfl (B1.row (by rfl))) ?_  -- l1
 refine S_call rfl en19 (spec_HeapValid_c _ _ _ _ _ _ _ (by assumption) (by assumption) (by omega)) ?_  -- k1 spec.HeapValid
 rintro v3 w3 ⟨rfl, g3⟩
 replace hA := hA.grow g3
 replace hB := hB.grow g3
 replace G := G.grow g3
 replace B1 := B1.grow g3
 replace B2 := B2.grow g3
 have zg3 := g3.size
 refine S_val (Y_not rfl) ?_
 refine S_nl rfl rfl ?_
 refine th_n (hK4 _ _ ?_)
 clear hK4 K4
 refine S_if rfl (fun hb1 => ?_) (fun hb1 => ?_)  -- c1
 · -- c1T
  first | with_reducible (replace hb1 := nb_nt hb1) | with_reducible (replace hb1 := nb_tt hb1) | with_reducible (replace hb1 := nb_bt hb1) | skip
  refine wp_seq_k fun K5 hK5 => ?_
  refine Sb 27 rfl ?_  -- 3
  refine S_val (Y_move rfl) ?_
  refine S_val (Y_assign rfl) ?_
  refine S_nl rfl rfl ?_
  refine th_n (hK5 _ _ ?_)
  clear hK5 K5
  refine wp_ret ?_
  refine th_r ?_
  clear hK3 K3
  refine ret_r1 rfl rfl ?_  -- r1
  exact ⟨_, _, _, rfl, by rw [fwdV_f hb1]; rfl, by rw [fwdV_f hb1]; exact OI.nil _ _ _ _, G⟩
 · -- c1F
  first | with_reducible (replace hb1 := nb_nf hb1) | with_reducible (replace hb1 := nb_tf hb1) | with_reducible (replace hb1 := nb_bf hb1) | skip
  have va := valid_iff.1 hb1
  have hl := va.leads
  have h40 := va.le
  have hr4 := va.roots4
  refine wp_skip ?_
  refine th_n (hK3 _ _ ?_)
  clear hK3 K3
  refine wp_seq_k fun K6 hK6 => ?_
  refine Sb 27 rfl ?_  -- 4
  refine S_val (Y_loadS Try.underlying26 rfl sz26 rfl (B1.row (by rfl))) ?_  -- l2
  refine S_call rfl en74 (spec_l9Order_c _ _ _ _ _ _ _ (by assumption) (by assumption) (by omega) (by assumption)) ?_  -- k2 spec.l9Order
  rintro v4 w4 ⟨A4, q4, cap4, rfl, hq4, O4, g4⟩
  replace hA := hA.grow g4
  replace hB := hB.grow g4
  replace G := G.grow g4
  replace B1 := B1.grow g4
  replace B2 := B2.grow g4
  have zg4 := g4.size
  subst hq4
  replace O4 := O4.lt
  have hbn := (orderL_bnd hl)
  have hol := hbn.len
  have hR4 := O4.r1
  refine S_val (Y_assign rfl) ?_
  refine S_nl rfl rfl ?_
  refine th_n (hK6 _ _ ?_)
  clear hK6 K6
  refine wp_seq_k fun K7 hK7 => ?_
  refine wp_seq_k fun K8 hK8 => ?_
  refine Sb 27 rfl ?_  -- 5
  refine S_val (Y_assign rfl) ?_
  refine S_nl rfl rfl ?_
  refine th_n (hK8 _ _ ?_)
  clear hK8 K8
  refine wp_block ?_
  obtain ⟨wz, hwz⟩ : ∃ x, x = w4.heap.size := ⟨_, rfl⟩
  have O1 : OW (fun i => i = b2 ∨ wz ≤ i) w4 3 1 (some ⟨b2, 0, none⟩) 0 0 (ints []) := OW.of_blk B2 rfl (by decide) (.inl rfl)
  go_loopw [3, 5] (fun u3 u5 wr => (∃ (k q cap : Nat) (A1 : Option Addr), u5 = .int .i64 k ∧ u3 = .slice A1 q cap ∧ k ≤ h.cells.length ∧ q = (namesL k (orderL h.cells h.roots nn)).length ∧ OW (fun i => i = b2 ∨ wz ≤ i) wr 3 1 A1 q cap (ints (namesL k (orderL h.cells h.roots nn)))) ∧ Mod (fun i => i = b2 ∨ wz ≤ i) w4 wr) (fun u3 u5 wr => h.cells.length - (intOf u5).toNat)  -- L1
  case atStart =>
   refine ⟨?_, Mod.refl _ _⟩
   exact ⟨0, 0, 0, _, rfl, rfl, by omega, rfl, O1⟩
  case round =>
   obtain ⟨w5, rfl⟩ : ∃ x : World, x = wr := ⟨_, rfl⟩
   obtain ⟨hrel, g5⟩ := hrel
   clear O1
   replace G := G.abv g5
   replace hA := hA0.grow G
   replace hB := hB0.grow G
   replace O4 := O4.md g5
   replace hR4 := hR4.md g5
   replace B1 := B1.md g5
   have zg5 := g5.size
   obtain ⟨k, q1, cap1, A1, rfl, rfl, hk, hq1, O1⟩ := hrel
   have hnl := namesL_len k (orderL h.cells h.roots nn)
   have GL5 := g5
   refine wp_seq_k fun K9 hK9 => ?_
   refine wp_seq_k fun K10 hK10 => ?_
   refine Sb 27 rfl ?_  -- 6
   refine S_val (Y_move rfl) ?_
   refine S_val (Y_field Try.underlying26 rfl fz26_0 (by decide) rfl) ?_
   refine S_val (Y_load Try.underlying23 rfl rfl (B1.at (by rfl))) ?_  -- l3
   refine S_val (Y_len Try.underlying23 rfl) ?_
   refine S_val (Y_lss rfl rfl) ?_
   refine S_nl rfl rfl ?_
   refine th_n (hK10 _ _ ?_)
   clear hK10 K10
   refine S_if rfl (fun hb2 => ?_) (fun hb2 => ?_)  -- c2
   · -- c2T
    replace hb2 := nb_tt hb2
    have hk1 : k < h.cells.length := by omega
    refine wp_skip ?_
    refine th_n (hK9 _ _ ?_)
    clear hK9 K9
    refine wp_seq_k fun K11 hK11 => ?_
    refine wp_block ?_
    refine Sb 27 rfl ?_  -- 8
    refine S_val (Y_move rfl) ?_
    refine S_val (Y_move rfl) ?_
    refine S_val (Y_move rfl) ?_
    refine S_call rfl en67 (spec_l9Name_c _ _ _ _ _ _ (by assumption) (by omega)) ?_  -- k3 spec.l9Name
    rintro v6 w6 ⟨rfl, g6⟩
    replace hA := hA.grow g6
    replace hB := hB.grow g6
    replace O4 := O4.grow g6
    replace hR4 := hR4.grow g6
    replace O1 := O1.grow g6
    replace G := G.grow g6
    replace GL5 := GL5.grow g6
    replace B1 := B1.grow g6
    have zg6 := g6.size
    refine S_bs1 (cs := [_]) Try.underlying24 zr3 sz3 rfl rfl rfl ?_
    intro b7 w7 fb7 g7 B7
    have lb7 := B7.lt
    replace hA := hA.grow g7
    replace hB := hB.grow g7
    replace O4 := O4.grow g7
    replace hR4 := hR4.grow g7
    replace O1 := O1.grow g7
    replace G := G.grow g7
    replace GL5 := GL5.grow g7
    replace B1 := B1.grow g7
    have zg7 := g7.size
    refine S_app Try.underlying24 zr3 sz3 by3 rfl rfl O1 rfl (Src.blk B7) (by simp [Value.oneCell']) (by omega) (Pr' := fun i => i = b2 ∨ wz ≤ i) (fun i hi => hi) (by omega) ?_
    intro A8 cap8 w8 X8 m8
    replace O1 := X8
    rw [ints_app] at O1
    clear X8
    replace G := G.abv m8
    replace GL5 := GL5.trn m8
    replace hA := hA0.grow G
    replace hB := hB0.grow G
    replace O4 := O4.md m8
    replace hR4 := hR4.md m8
    replace B1 := B1.md m8
    have zm8 := m8.size
    refine S_val (Y_assign rfl) ?_
    refine S_nl rfl rfl ?_
    refine ib_n ?_
    refine th_n (hK11 _ _ ?_)
    clear hK11 K11
    refine Sb 27 rfl ?_  -- 7
    refine S_val (Y_move rfl) ?_
    refine S_val (Y_inc rfl rfl (by omega)) ?_
    refine S_val (Y_assign rfl) ?_
    refine S_nl rfl rfl ?_
    refine th_n ?_
    go_roundw  -- e1 of L1
    case rel =>
     refine ⟨?_, GL5⟩
     exact ⟨k + 1, _, _, _, rfl, rfl, by omega, by rw [namesL_len]; omega, by rw [namesL_succ]; exact O1⟩
    case measure =>
     exact dec_nat (by omega)
   · -- c2F
    replace hb2 := nb_tf hb2
    refine wp_exit ?_
    refine th_x ?_
    try clear GL5
    refine th_x ?_
    refine ib_e ?_
    refine th_n (hK7 _ _ ?_)
    clear hK9 K9 hK7 K7
    refine wp_seq_k fun K12 hK12 => ?_
    refine Sb 27 rfl ?_  -- 9
    refine S_val (Y_move rfl) ?_
    refine S_val (Y_assign rfl) ?_
    refine S_nl rfl rfl ?_
    refine th_n (hK12 _ _ ?_)
    clear hK12 K12
    refine wp_ret ?_
    refine ret_r1 rfl rfl ?_  -- r2
    have hkN : k = h.cells.length := by omega
    rw [hkN] at hq1 O1
    exact ⟨_, _, _, rfl, by rw [fwdV_t hb1]; exact hq1, by rw [fwdV_t hb1]; exact O1.oi.weak (fun i hi => by omega), G⟩
set_option maxHeartbeats 400000 in
set_option maxRecDepth 20000 in
theorem impl_SlideForward_c (Pr : Nat → Prop) (A B : Option Addr) (h : LH) (c d : Nat) (w : World) (hA : RC Pr w A h.cells) (hB : R1 Pr w B (ints h.roots)) (hz : hsize h ≤ 1048576) :
    Calls Try.prog 16 #[.agg #[.slice A h.cells.length c, .slice B h.roots.length d]] w (Ret fun v w' => ∃ A1 q cap, v = .slice A1 q cap ∧ q = (sfwdV h).length ∧ OI (fun i => w.heap.size ≤ i) w' 3 A1 (ints (sfwdV h)) ∧ Grow w w') := by
 have hz1 := hsize_cells h
 have hz2 := hsize_roots h
 refine enter Try.func16 rfl Try.ntmps16 (L := [_,_,_,_,_,_,_,_,_,_,_,_]) rfl ?_
 have G := Mod.refl No w
 have hA0 := hA
 have hB0 := hB
 refine wp_seq_k fun K1 hK1 => ?_
 refine Sb 12 rfl ?_  -- 0
 refine S_box (cs := [_, _]) rfl rfl ?_
 intro b1 w1 fb1 g1 B1
 have lb1 := B1.lt
 replace hA := hA.grow g1
 replace hB := hB.grow g1
 replace G := G.grow g1
 have zg1 := g1.size
 refine S_val (Y_assign rfl) ?_
 refine S_nl rfl rfl ?_
 refine th_n (hK1 _ _ ?_)
 clear hK1 K1
 refine wp_seq_k fun K2 hK2 => ?_
 refine wp_seq_k fun K3 hK3 => ?_
 refine Sb 12 rfl ?_  -- 1
 refine S_val (Y_loadS Try.underlying26 rfl sz26 rfl (B1.row (by rfl))) ?_  -- l1
 refine S_call rfl en63 (impl_HeapValid_c _ _ _ _ _ _ _ (by assumption) (by assumption) (by omega)) ?_  -- k1 impl.HeapValid
 rintro v2 w2 ⟨rfl, g2⟩
 replace hA := hA.grow g2
 replace hB := hB.grow g2
 replace G := G.grow g2
 replace B1 := B1.grow g2
 have zg2 := g2.size
 refine S_val (Y_not rfl) ?_
 refine S_nl rfl rfl ?_
 refine th_n (hK3 _ _ ?_)
 clear hK3 K3
 refine S_if rfl (fun hb1 => ?_) (fun hb1 => ?_)  -- c1
 · -- c1T
  first | with_reducible (replace hb1 := nb_nt hb1) | with_reducible (replace hb1 := nb_tt hb1) | with_reducible (replace hb1 := nb_bt hb1) | skip
  refine wp_seq_k fun K4 hK4 => ?_
  refine Sb 12 rfl ?_  -- 2
  refine S_val (Y_assign rfl) ?_
  refine S_nl rfl rfl ?_
  refine th_n (hK4 _ _ ?_)
  clear hK4 K4
  refine wp_ret ?_
  refine th_r ?_
  clear hK2 K2
  refine ret_r1 rfl rfl ?_  -- r1
  exact ⟨_, _, _, rfl, by rw [sfwdV_f hb1]; rfl, by rw [sfwdV_f hb1]; exact OI.nil _ _ _ _, G⟩
 · -- c1F
  first | with_reducible (replace hb1 := nb_nf hb1) | with_reducible (replace hb1 := nb_tf hb1) | with_reducible (replace hb1 := nb_bf hb1) | skip
  have va := valid_iff.1 hb1
  have hl := va.leads
  have h40 := va.le
  have hr4 := va.roots4
  refine wp_skip ?_
  refine th_n (hK2 _ _ ?_)
  clear hK2 K2
  refine wp_seq_k fun K5 hK5 => ?_
  refine D_start 7 12 (fun w => Mod (No) w) follows rfl rfl ?_  -- d1 r3
  intro w3 g3
  replace hA := hA.grow g3
  replace hB := hB.grow g3
  replace G := G.grow g3
  replace B1 := B1.grow g3
  have zg3 := g3.size
  have GS3 := Mod.refl (No) w3
  have B1d3 := B1
  refine Dq (i := 0) rfl GS3 (fun _ hs => Y_loadS Try.underlying26 rfl sz26 rfl (by first | exact hs.cells0 (B1.row (by rfl)))) ?_
  refine Dq (i := 2) rfl GS3 (fun _ _ => Y_field Try.underlying26 rfl fz26_0 (by decide) rfl) ?_
  refine Dq (i := 3) rfl GS3 (fun _ hs => Y_load Try.underlying23 rfl rfl (hs.cell0 (B1.at (by rfl)))) ?_
  refine Dq (i := 4) rfl GS3 (fun _ _ => Y_len Try.underlying23 rfl) ?_
  refine D_1 (i := 1) (by kernel_rfl) ?_
  refine E_call rfl rfl en65 (impl_slideOrder_c _ _ _ _ _ _ _ (by assumption) (by assumption) (by omega) (by assumption)) ?_  -- k2 impl.slideOrder
  rintro v4 w4 ⟨A4, q4, cap4, rfl, hq4, O4, g4⟩
  replace hA := hA.grow g4
  replace hB := hB.grow g4
  replace G := G.grow g4
  replace GS3 := GS3.grow g4
  replace B1 := B1.grow g4
  have zg4 := g4.size
  subst hq4
  replace O4 := O4.lt
  have hbn := (show Bnd h.cells.length (slideL h) from selL_bnd _ _)
  have hR4 := O4.r1
  refine ⟨GS3, ?_⟩
  refine D_1 (i := 5) (by kernel_rfl) ?_
  refine E_call rfl rfl en64 (impl_numbersIn_c _ _ _ _ _ _ (by assumption) hbn (by omega)) ?_  -- k3 impl.numbersIn
  rintro v5 w5 ⟨b5, rfl, fb5, B5, g5⟩
  replace hA := hA.grow g5
  replace hB := hB.grow g5
  replace O4 := O4.grow g5
  replace hR4 := hR4.grow g5
  replace G := G.grow g5
  replace GS3 := GS3.grow g5
  replace B1 := B1.grow g5
  have zg5 := g5.size
  have lb5 := B5.lt
  refine ⟨GS3, ?_⟩
  refine Dq (i := 6) rfl GS3 (fun _ _ => Y_assign rfl) ?_
  refine D_en (by kernel_rfl) rfl rfl ?_
  refine th_n (hK5 _ _ ?_)
  clear hK5 K5
  refine wp_ret ?_
  refine ret_r1 rfl rfl ?_  -- r2
  exact ⟨_, _, _, rfl, by rw [sfwdV_t hb1, namesL_len], by rw [sfwdV_t hb1]; exact OI.of_blk' (by assumption) (by omega), G⟩
set_option maxHeartbeats 400000 in
set_option maxRecDepth 20000 in
theorem spec_SlideForward_c (Pr : Nat → Prop) (A B : Option Addr) (h : LH) (c d : Nat) (w : World) (hA : RC Pr w A h.cells) (hB : R1 Pr w B (ints h.roots)) (hz : hsize h ≤ 1048576) :
    Calls Try.prog 18 #[.agg #[.slice A h.cells.length c, .slice B h.roots.length d]] w (Ret fun v w' => ∃ A1 q cap, v = .slice A1 q cap ∧ q = (sfwdV h).length ∧ OI (fun i => w.heap.size ≤ i) w' 3 A1 (ints (sfwdV h)) ∧ Grow w w') := by
 have hz1 := hsize_cells h
 have hz2 := hsize_roots h
 refine enter Try.func18 rfl Try.ntmps18 (L := [_,_,_,_,_,_,_,_,_,_,_,_,_,_,_,_,_,_,_,_,_,_,_,_,_,_,_]) rfl ?_
 have G := Mod.refl No w
 have hA0 := hA
 have hB0 := hB
 refine wp_seq_k fun K1 hK1 => ?_
 refine Sb 27 rfl ?_  -- 0
 refine S_box (cs := [_, _]) rfl rfl ?_
 intro b1 w1 fb1 g1 B1
 have lb1 := B1.lt
 replace hA := hA.grow g1
 replace hB := hB.grow g1
 replace G := G.grow g1
 have zg1 := g1.size
 refine S_val (Y_assign rfl) ?_
 refine S_nl rfl rfl ?_
 refine th_n (hK1 _ _ ?_)
 clear hK1 K1
 refine wp_seq_k fun K2 hK2 => ?_
 refine Sb 27 rfl ?_  -- 1
 refine S_bs0 Try.underlying24 sz3 ?_
 intro b2 w2 fb2 g2 B2
 have lb2 := B2.lt
 replace hA := hA.grow g2
 replace hB := hB.grow g2
 replace G := G.grow g2
 replace B1 := B1.grow g2
 have zg2 := g2.size
 refine S_val (Y_assign rfl) ?_
 refine S_nl rfl rfl ?_
 refine th_n (hK2 _ _ ?_)
 clear hK2 K2
 refine wp_seq_k fun K3 hK3 => ?_
 refine wp_seq_k fun K4 hK4 => ?_
 refine Sb 27 rfl ?_  -- 2
 refine S_val (Y_loadS Try.underlying26 rfl sz26 rfl (B1.row (by rfl))) ?_  -- l1
 refine S_call rfl en19 (spec_HeapValid_c _ _ _ _ _ _ _ (by assumption) (by assumption) (by omega)) ?_  -- k1 spec.HeapValid
 rintro v3 w3 ⟨rfl, g3⟩
 replace hA := hA.grow g3
 replace hB := hB.grow g3
 replace G := G.grow g3
 replace B1 := B1.grow g3
 replace B2 := B2.grow g3
 have zg3 := g3.size
 refine S_val (Y_not rfl) ?_
 refine S_nl rfl rfl ?_
 refine th_n (hK4 _ _ ?_)
 clear hK4 K4
 refine S_if rfl (fun hb1 => ?_) (fun hb1 => ?_)  -- c1
 · -- c1T
  first | with_reducible (replace hb1 := nb_nt hb1) | with_reducible (replace hb1 := nb_tt hb1) | with_reducible (replace hb1 := nb_bt hb1) | skip
  refine wp_seq_k fun K5 hK5 => ?_
  refine Sb 27 rfl ?_  -- 3
  refine S_val (Y_move rfl) ?_
  refine S_val (Y_assign rfl) ?_
  refine S_nl rfl rfl ?_
  refine th_n (hK5 _ _ ?_)
  clear hK5 K5
  refine wp_ret ?_
  refine th_r ?_
  clear hK3 K3
  refine ret_r1 rfl rfl ?_  -- r1
  exact ⟨_, _, _, rfl, by rw [sfwdV_f hb1]; rfl, by rw [sfwdV_f hb1]; exact OI.nil _ _ _ _, G⟩
 · -- c1F
  first | with_reducible (replace hb1 := nb_nf hb1) | with_reducible (replace hb1 := nb_tf hb1) | with_reducible (replace hb1 := nb_bf hb1) | skip
  have va := valid_iff.1 hb1
  have hl := va.leads
  have h40 := va.le
  have hr4 := va.roots4
  refine wp_skip ?_
  refine th_n (hK3 _ _ ?_)
  clear hK3 K3
  refine wp_seq_k fun K6 hK6 => ?_
  refine Sb 27 rfl ?_  -- 4
  refine S_val (Y_loadS Try.underlying26 rfl sz26 rfl (B1.row (by rfl))) ?_  -- l2
  refine S_call rfl en66 (spec_l16Order_c _ _ _ _ _ _ _ (by assumption) (by assumption) (by omega) (by assumption)) ?_  -- k2 spec.l16Order
  rintro v4 w4 ⟨A4, q4, cap4, rfl, hq4, O4, g4⟩
  replace hA := hA.grow g4
  replace hB := hB.grow g4
  replace G := G.grow g4
  replace B1 := B1.grow g4
  replace B2 := B2.grow g4
  have zg4 := g4.size
  subst hq4
  replace O4 := O4.lt
  have hbn := (show Bnd h.cells.length (slideL h) from selL_bnd _ _)
  have hol := hbn.len
  have hR4 := O4.r1
  refine S_val (Y_assign rfl) ?_
  refine S_nl rfl rfl ?_
  refine th_n (hK6 _ _ ?_)
  clear hK6 K6
  refine wp_seq_k fun K7 hK7 => ?_
  refine wp_seq_k fun K8 hK8 => ?_
  refine Sb 27 rfl ?_  -- 5
  refine S_val (Y_assign rfl) ?_
  refine S_nl rfl rfl ?_
  refine th_n (hK8 _ _ ?_)
  clear hK8 K8
  refine wp_block ?_
  obtain ⟨wz, hwz⟩ : ∃ x, x = w4.heap.size := ⟨_, rfl⟩
  have O1 : OW (fun i => i = b2 ∨ wz ≤ i) w4 3 1 (some ⟨b2, 0, none⟩) 0 0 (ints []) := OW.of_blk B2 rfl (by decide) (.inl rfl)
  go_loopw [3, 5] (fun u3 u5 wr => (∃ (k q cap : Nat) (A1 : Option Addr), u5 = .int .i64 k ∧ u3 = .slice A1 q cap ∧ k ≤ h.cells.length ∧ q = (namesL k (slideL h)).length ∧ OW (fun i => i = b2 ∨ wz ≤ i) wr 3 1 A1 q cap (ints (namesL k (slideL h)))) ∧ Mod (fun i => i = b2 ∨ wz ≤ i) w4 wr) (fun u3 u5 wr => h.cells.length - (intOf u5).toNat)  -- L1
  case atStart =>
   refine ⟨?_, Mod.refl _ _⟩
   exact ⟨0, 0, 0, _, rfl, rfl, by omega, rfl, O1⟩
  case round =>
   obtain ⟨w5, rfl⟩ : ∃ x : World, x = wr := ⟨_, rfl⟩
   obtain ⟨hrel, g5⟩ := hrel
   clear O1
   replace G := G.abv g5
   replace hA := hA0.grow G
   replace hB := hB0.grow G
   replace O4 := O4.md g5
   replace hR4 := hR4.md g5
   replace B1 := B1.md g5
   have zg5 := g5.size
   obtain ⟨k, q1, cap1, A1, rfl, rfl, hk, hq1, O1⟩ := hrel
   have hnl := namesL_len k (slideL h)
   have GL5 := g5
   refine wp_seq_k fun K9 hK9 => ?_
   refine wp_seq_k fun K10 hK10 => ?_
   refine Sb 27 rfl ?_  -- 6
   refine S_val (Y_move rfl) ?_
   refine S_val (Y_field Try.underlying26 rfl fz26_0 (by decide) rfl) ?_
   refine S_val (Y_load Try.underlying23 rfl rfl (B1.at (by rfl))) ?_  -- l3
   refine S_val (Y_len Try.underlying23 rfl) ?_
   refine S_val (Y_lss rfl rfl) ?_
   refine S_nl rfl rfl ?_
   refine th_n (hK10 _ _ ?_)
   clear hK10 K10
   refine S_if rfl (fun hb2 => ?_) (fun hb2 => ?_)  -- c2
   · -- c2T
    replace hb2 := nb_tt hb2
    have hk1 : k < h.cells.length := by omega
    refine wp_skip ?_
    refine th_n (hK9 _ _ ?_)
    clear hK9 K9
    refine wp_seq_k fun K11 hK11 => ?_
    refine wp_block ?_
    refine Sb 27 rfl ?_  -- 8
    refine S_val (Y_move rfl) ?_
    refine S_val (Y_move rfl) ?_
    refine S_val (Y_move rfl) ?_
    refine S_call rfl en67 (spec_l9Name_c _ _ _ _ _ _ (by assumption) (by omega)) ?_  -- k3 spec.l9Name
    rintro v6 w6 ⟨rfl, g6⟩
    replace hA := hA.grow g6
    replace hB := hB.grow g6
    replace O4 := O4.grow g6
    replace hR4 := hR4.grow g6
    replace O1 := O1.grow g6
    replace G := G.grow g6
    replace GL5 := GL5.grow g6
    replace B1 := B1.grow g6
    have zg6 := g6.size
    refine S_bs1 (cs := [_]) Try.underlying24 zr3 sz3 rfl rfl rfl ?_
    intro b7 w7 fb7 g7 B7
    have lb7 := B7.lt
    replace hA := hA.grow g7
    replace hB := hB.grow g7
    replace O4 := O4.grow g7
    replace hR4 := hR4.grow g7
    replace O1 := O1.grow g7
    replace G := G.grow g7
    replace GL5 := GL5.grow g7
    replace B1 := B1.grow g7
    have zg7 := g7.size
    refine S_app Try.underlying24 zr3 sz3 by3 rfl rfl O1 rfl (Src.blk B7) (by simp [Value.oneCell']) (by omega) (Pr' := fun i => i = b2 ∨ wz ≤ i) (fun i hi => hi) (by omega) ?_
    intro A8 cap8 w8 X8 m8
    replace O1 := X8
    rw [ints_app] at O1
    clear X8
    replace G := G.abv m8
    replace GL5 := GL5.trn m8
    replace hA := hA0.grow G
    replace hB := hB0.grow G
    replace O4 := O4.md m8
    replace hR4 := hR4.md m8
    replace B1 := B1.md m8
    have zm8 := m8.size
    refine S_val (Y_assign rfl) ?_
    refine S_nl rfl rfl ?_
    refine ib_n ?_
    refine th_n (hK11 _ _ ?_)
    clear hK11 K11
    refine Sb 27 rfl ?_  -- 7
    refine S_val (Y_move rfl) ?_
    refine S_val (Y_inc rfl rfl (by omega)) ?_
    refine S_val (Y_assign rfl) ?_
    refine S_nl rfl rfl ?_
    refine th_n ?_
    go_roundw  -- e1 of L1
    case rel =>
     refine ⟨?_, GL5⟩
     exact ⟨k + 1, _, _, _, rfl, rfl, by omega, by rw [namesL_len]; omega, by rw [namesL_succ]; exact O1⟩
    case measure =>
     exact dec_nat (by omega)
   · -- c2F
    replace hb2 := nb_tf hb2
    refine wp_exit ?_
    refine th_x ?_
    try clear GL5
    refine th_x ?_
    refine ib_e ?_
    refine th_n (hK7 _ _ ?_)
    clear hK9 K9 hK7 K7
    refine wp_seq_k fun K12 hK12 => ?_
    refine Sb 27 rfl ?_  -- 9
    refine S_val (Y_move rfl) ?_
    refine S_val (Y_assign rfl) ?_
    refine S_nl rfl rfl ?_
    refine th_n (hK12 _ _ ?_)
    clear hK12 K12
    refine wp_ret ?_
    refine ret_r1 rfl rfl ?_  -- r2
    have hkN : k = h.cells.length := by omega
    rw [hkN] at hq1 O1
    exact ⟨_, _, _, rfl, by rw [sfwdV_t hb1]; exact hq1, by rw [sfwdV_t hb1]; exact O1.oi.weak (fun i hi => by omega), G⟩
set_option maxHeartbeats 400000 in
set_option maxRecDepth 20000 in
theorem impl_SlideMoved_c (Pr : Nat → Prop) (A B : Option Addr) (h : LH) (c d : Nat) (w : World) (hA : RC Pr w A h.cells) (hB : R1 Pr w B (ints h.roots)) (hz : hsize h ≤ 1048576) :
    Calls Try.prog 47 #[.agg #[.slice A h.cells.length c, .slice B h.roots.length d]] w (Ret fun v w' => v = .int .i64 (movedV h) ∧ Grow w w') := by
 have hz1 := hsize_cells h
 have hz2 := hsize_roots h
 refine enter Try.func47 rfl Try.ntmps47 (L := [_,_,_,_,_,_,_,_,_,_,_,_,_,_,_,_,_,_,_,_,_,_,_,_]) rfl ?_
 have G := Mod.refl No w
 have hA0 := hA
 have hB0 := hB
 refine wp_seq_k fun K1 hK1 => ?_
 refine Sb 24 rfl ?_  -- 0
 refine S_box (cs := [_, _]) rfl rfl ?_
 intro b1 w1 fb1 g1 B1
 have lb1 := B1.lt
 replace hA := hA.grow g1
 replace hB := hB.grow g1
 replace G := G.grow g1
 have zg1 := g1.size
 refine S_val (Y_assign rfl) ?_
 refine S_nl rfl rfl ?_
 refine th_n (hK1 _ _ ?_)
 clear hK1 K1
 refine wp_seq_k fun K2 hK2 => ?_
 refine wp_seq_k fun K3 hK3 => ?_
 refine Sb 24 rfl ?_  -- 1
 refine S_val (Y_loadS Try.underlying26 rfl sz26 rfl (B1.row (by rfl))) ?_  -- l1
 refine S_call rfl en63 (impl_HeapValid_c _ _ _ _ _ _ _ (by assumption) (by assumption) (by omega)) ?_  -- k1 impl.HeapValid
 rintro v2 w2 ⟨rfl, g2⟩
 replace hA := hA.grow g2
 replace hB := hB.grow g2
 replace G := G.grow g2
 replace B1 := B1.grow g2
 have zg2 := g2.size
 refine S_val (Y_not rfl) ?_
 refine S_nl rfl rfl ?_
 refine th_n (hK3 _ _ ?_)
 clear hK3 K3
 refine S_if rfl (fun hb1 => ?_) (fun hb1 => ?_)  -- c1
 · -- c1T
  first | with_reducible (replace hb1 := nb_nt hb1) | with_reducible (replace hb1 := nb_tt hb1) | with_reducible (replace hb1 := nb_bt hb1) | skip
  refine wp_seq_k fun K4 hK4 => ?_
  refine Sb 24 rfl ?_  -- 2
  refine S_val (Y_assign rfl) ?_
  refine S_nl rfl rfl ?_
  refine th_n (hK4 _ _ ?_)
  clear hK4 K4
  refine wp_ret ?_
  refine th_r ?_
  clear hK2 K2
  refine ret_r1 rfl rfl ?_  -- r1
  exact ⟨by rw [movedV_f hb1], G⟩
 · -- c1F
  first | with_reducible (replace hb1 := nb_nf hb1) | with_reducible (replace hb1 := nb_tf hb1) | with_reducible (replace hb1 := nb_bf hb1) | skip
  have va := valid_iff.1 hb1
  have hl := va.leads
  have h40 := va.le
  have hr4 := va.roots4
  refine wp_skip ?_
  refine th_n (hK2 _ _ ?_)
  clear hK2 K2
  refine wp_seq_k fun K5 hK5 => ?_
  refine Sb 24 rfl ?_  -- 3
  refine S_val (Y_assign rfl) ?_
  refine S_nl rfl rfl ?_
  refine th_n (hK5 _ _ ?_)
  clear hK5 K5
  refine wp_seq_k fun K6 hK6 => ?_
  refine wp_seq_k fun K7 hK7 => ?_
  refine Sb 24 rfl ?_  -- 4
  refine S_val (Y_loadS Try.underlying26 rfl sz26 rfl (B1.row (by rfl))) ?_  -- l2
  refine S_call rfl en65 (impl_slideOrder_c _ _ _ _ _ _ _ (by assumption) (by assumption) (by omega) (by assumption)) ?_  -- k2 impl.slideOrder
  rintro v3 w3 ⟨A3, q3, cap3, rfl, hq3, O3, g3⟩
  replace hA := hA.grow g3
  replace hB := hB.grow g3
  replace G := G.grow g3
  replace B1 := B1.grow g3
  have zg3 := g3.size
  subst hq3
  replace O3 := O3.lt
  have hbn : Bnd h.cells.length (slideL h) := selL_bnd _ _
  have hol := hbn.len
  have hR3 := O3.r1
  refine S_val (Y_len Try.underlying24 rfl) ?_
  refine S_val (Y_move rfl) ?_
  refine S_nl rfl rfl ?_
  refine th_n (hK7 _ _ ?_)
  clear hK7 K7
  refine wp_block ?_
  go_loopw [3, 12] (fun u3 u12 wr => (∃ k : Nat, u12 = .int .i64 k ∧ u3 = .int .i64 ((movedN (slideL h) ((slideL h).take k) : Nat) : Int) ∧ k ≤ (slideL h).length) ∧ Mod No w3 wr) (fun u3 u12 wr => (slideL h).length - (intOf u12).toNat)  -- L1
  case atStart =>
   refine ⟨?_, Mod.refl _ _⟩
   exact ⟨0, rfl, rfl, by omega⟩
  case round =>
   obtain ⟨w4, rfl⟩ : ∃ x : World, x = wr := ⟨_, rfl⟩
   obtain ⟨hrel, g4⟩ := hrel
   replace hA := hA.grow g4
   replace hB := hB.grow g4
   replace O3 := O3.grow g4
   replace hR3 := hR3.grow g4
   replace G := G.grow g4
   replace B1 := B1.grow g4
   have zg4 := g4.size
   obtain ⟨k, rfl, rfl, hk⟩ := hrel
   have hml := movedN_le (slideL h) ((slideL h).take k)
   rw [List.length_take] at hml
   have GL4 := g4
   refine wp_seq_k fun K8 hK8 => ?_
   refine Sb 24 rfl ?_  -- 5
   refine S_val (Y_lss rfl rfl) ?_
   refine S_nl rfl rfl ?_
   refine th_n (hK8 _ _ ?_)
   clear hK8 K8
   refine wp_seq_k fun K9 hK9 => ?_
   refine S_if rfl (fun hb2 => ?_) (fun hb2 => ?_)  -- c2
   · -- c2T
    replace hb2 := nb_tt hb2
    have hk1 : k < (slideL h).length := by omega
    obtain ⟨g4, o4, rfl, hp4, hc4⟩ := hR3.int hk1
    have hns := nameIn_self hbn hk1
    have hms := movedN_snoc (slideL h) ((slideL h).take k) (slideL h)[k]
    rw [← List.take_succ_eq_append_getElem hk1, show nameIn (slideL h) (slideL h)[k] = (k : Int) from hns] at hms
    refine wp_skip ?_
    refine th_n (hK9 _ _ ?_)
    clear hK9 K9
    refine wp_seq_k fun K10 hK10 => ?_
    refine wp_block ?_
    refine wp_seq_k fun K11 hK11 => ?_
    refine Sb 24 rfl ?_  -- 6
    refine S_val (Y_move rfl) ?_
    refine S_val (Y_index Try.underlying24 sz3 rfl rfl (by first | assumption | omega)) ?_
    refine S_val (Y_load Try.underlying3 rfl rfl (by first | assumption | exact B1.at (by rfl))) ?_  -- l3
    refine S_val (Y_assign rfl) ?_
    refine S_val (Y_assign rfl) ?_
    refine S_nl rfl rfl ?_
    refine th_n (hK11 _ _ ?_)
    clear hK11 K11
    refine wp_seq_k fun K12 hK12 => ?_
    refine Sb 24 rfl ?_  -- 7
    refine S_val (Y_move rfl) ?_
    refine S_val (Y_move rfl) ?_
    refine S_val (Y_neq rfl rfl) ?_
    refine S_nl rfl rfl ?_
    refine th_n (hK12 _ _ ?_)
    clear hK12 K12
    refine S_if rfl (fun hb3 => ?_) (fun hb3 => ?_)  -- c3
    · -- c3T
     replace hb3 := nb_nt hb3
     refine Sb 24 rfl ?_  -- 8
     refine S_val (Y_move rfl) ?_
     refine S_val (Y_inc rfl rfl (by omega)) ?_
     refine S_val (Y_assign rfl) ?_
     refine S_nl rfl rfl ?_
     refine ib_n ?_
     refine th_n (hK10 _ _ ?_)
     clear hK10 K10
     refine Sb 24 rfl ?_  -- 9
     refine S_val (Y_inc rfl rfl (by omega)) ?_
     refine S_val (Y_move rfl) ?_
     refine S_nl rfl rfl ?_
     refine th_n ?_
     go_roundw  -- e1 of L1
     case rel =>
      refine ⟨?_, GL4⟩
      rw [if_pos (by omega)] at hms
      exact ⟨k + 1, rfl, by rw [hms], by omega⟩
     case measure =>
      exact dec_nat (by omega)
    · -- c3F
     replace hb3 := nb_nf hb3
     refine wp_skip ?_
     refine ib_n ?_
     refine th_n (hK10 _ _ ?_)
     clear hK10 K10
     refine Sb 24 rfl ?_  -- 9
     refine S_val (Y_inc rfl rfl (by omega)) ?_
     refine S_val (Y_move rfl) ?_
     refine S_nl rfl rfl ?_
     refine th_n ?_
     go_roundw  -- e2 of L1
     case rel =>
      refine ⟨?_, GL4⟩
      rw [if_neg (by omega)] at hms
      exact ⟨k + 1, rfl, by rw [hms]; rfl, by omega⟩
     case measure =>
      exact dec_nat (by omega)
   · -- c2F
    replace hb2 := nb_tf hb2
    refine wp_exit ?_
    refine th_x ?_
    try clear GL4
    refine th_x ?_
    refine ib_e ?_
    refine th_n (hK6 _ _ ?_)
    clear hK9 K9 hK6 K6
    refine wp_seq_k fun K13 hK13 => ?_
    refine Sb 24 rfl ?_  -- 10
    refine S_val (Y_move rfl) ?_
    refine S_val (Y_assign rfl) ?_
    refine S_nl rfl rfl ?_
    refine th_n (hK13 _ _ ?_)
    clear hK13 K13
    refine wp_ret ?_
    refine ret_r1 rfl rfl ?_  -- r2
    rw [List.take_of_length_le (by omega)]
    exact ⟨by rw [movedV_t hb1], G⟩
set_option maxHeartbeats 400000 in
set_option maxRecDepth 20000 in
theorem spec_SlideMoved_c (Pr : Nat → Prop) (A B : Option Addr) (h : LH) (c d : Nat) (w : World) (hA : RC Pr w A h.cells) (hB : R1 Pr w B (ints h.roots)) (hz : hsize h ≤ 1048576) :
    Calls Try.prog 48 #[.agg #[.slice A h.cells.length c, .slice B h.roots.length d]] w (Ret fun v w' => v = .int .i64 (movedV h) ∧ Grow w w') := by
 have hz1 := hsize_cells h
 have hz2 := hsize_roots h
 refine enter Try.func48 rfl Try.ntmps48 (L := [_,_,_,_,_,_,_,_,_,_,_,_,_,_,_,_,_,_,_,_,_,_,_,_,_,_,_,_,_,_,_,_,_]) rfl ?_
 have G := Mod.refl No w
 have hA0 := hA
 have hB0 := hB
 refine wp_seq_k fun K1 hK1 => ?_
 refine Sb 33 rfl ?_  -- 0
 refine S_box (cs := [_, _]) rfl rfl ?_
 intro b1 w1 fb1 g1 B1
 have lb1 := B1.lt
 replace hA := hA.grow g1
 replace hB := hB.grow g1
 replace G := G.grow g1
 have zg1 := g1.size
 refine S_val (Y_assign rfl) ?_
 refine S_nl rfl rfl ?_
 refine th_n (hK1 _ _ ?_)
 clear hK1 K1
 refine wp_seq_k fun K2 hK2 => ?_
 refine wp_seq_k fun K3 hK3 => ?_
 refine Sb 33 rfl ?_  -- 1
 refine S_val (Y_loadS Try.underlying26 rfl sz26 rfl (B1.row (by rfl))) ?_  -- l1
 refine S_call rfl en19 (spec_HeapValid_c _ _ _ _ _ _ _ (by assumption) (by assumption) (by omega)) ?_  -- k1 spec.HeapValid
 rintro v2 w2 ⟨rfl, g2⟩
 replace hA := hA.grow g2
 replace hB := hB.grow g2
 replace G := G.grow g2
 replace B1 := B1.grow g2
 have zg2 := g2.size
 refine S_val (Y_not rfl) ?_
 refine S_nl rfl rfl ?_
 refine th_n (hK3 _ _ ?_)
 clear hK3 K3
 refine S_if rfl (fun hb1 => ?_) (fun hb1 => ?_)  -- c1
 · -- c1T
  first | with_reducible (replace hb1 := nb_nt hb1) | with_reducible (replace hb1 := nb_tt hb1) | with_reducible (replace hb1 := nb_bt hb1) | skip
  refine wp_seq_k fun K4 hK4 => ?_
  refine Sb 33 rfl ?_  -- 2
  refine S_val (Y_assign rfl) ?_
  refine S_nl rfl rfl ?_
  refine th_n (hK4 _ _ ?_)
  clear hK4 K4
  refine wp_ret ?_
  refine th_r ?_
  clear hK2 K2
  refine ret_r1 rfl rfl ?_  -- r1
  exact ⟨by rw [movedV_f hb1], G⟩
 · -- c1F
  first | with_reducible (replace hb1 := nb_nf hb1) | with_reducible (replace hb1 := nb_tf hb1) | with_reducible (replace hb1 := nb_bf hb1) | skip
  have va := valid_iff.1 hb1
  have hl := va.leads
  have h40 := va.le
  have hr4 := va.roots4
  refine wp_skip ?_
  refine th_n (hK2 _ _ ?_)
  clear hK2 K2
  refine wp_seq_k fun K5 hK5 => ?_
  refine Sb 33 rfl ?_  -- 3
  refine S_val (Y_assign rfl) ?_
  refine S_nl rfl rfl ?_
  refine th_n (hK5 _ _ ?_)
  clear hK5 K5
  refine wp_seq_k fun K6 hK6 => ?_
  refine Sb 33 rfl ?_  -- 4
  refine S_val (Y_loadS Try.underlying26 rfl sz26 rfl (B1.row (by rfl))) ?_  -- l2
  refine S_call rfl en18 (spec_SlideForward_c _ _ _ _ _ _ _ (by assumption) (by assumption) (by omega)) ?_  -- k2 spec.SlideForward
  rintro v3 w3 ⟨A3, q3, cap3, rfl, hq3, O3, g3⟩
  replace hA := hA.grow g3
  replace hB := hB.grow g3
  replace G := G.grow g3
  replace B1 := B1.grow g3
  have zg3 := g3.size
  subst hq3
  replace O3 := O3.lt
  rw [sfwdV_t hb1, namesL_len]
  rw [sfwdV_t hb1] at O3
  have hR3 := O3.r1
  refine S_val (Y_assign rfl) ?_
  refine S_nl rfl rfl ?_
  refine th_n (hK6 _ _ ?_)
  clear hK6 K6
  refine wp_seq_k fun K7 hK7 => ?_
  refine wp_seq_k fun K8 hK8 => ?_
  refine Sb 33 rfl ?_  -- 5
  refine S_val (Y_assign rfl) ?_
  refine S_nl rfl rfl ?_
  refine th_n (hK8 _ _ ?_)
  clear hK8 K8
  refine wp_block ?_
  go_loopw [3, 5] (fun u3 u5 wr => (∃ k : Nat, u5 = .int .i64 k ∧ u3 = .int .i64 ((movedN (slideL h) (selL k (rB h)) : Nat) : Int) ∧ k ≤ h.cells.length) ∧ Mod No w3 wr) (fun u3 u5 wr => h.cells.length - (intOf u5).toNat)  -- L1
  case atStart =>
   refine ⟨?_, Mod.refl _ _⟩
   exact ⟨0, rfl, rfl, by omega⟩
  case round =>
   obtain ⟨w4, rfl⟩ : ∃ x : World, x = wr := ⟨_, rfl⟩
   obtain ⟨hrel, g4⟩ := hrel
   replace hA := hA.grow g4
   replace hB := hB.grow g4
   replace hR3 := hR3.grow g4
   replace G := G.grow g4
   replace B1 := B1.grow g4
   have zg4 := g4.size
   obtain ⟨k, rfl, rfl, hk⟩ := hrel
   have hml := movedN_le (slideL h) (selL k (rB h))
   have hsl := selL_le k (rB h)
   have GL4 := g4
   refine wp_seq_k fun K9 hK9 => ?_
   refine wp_seq_k fun K10 hK10 => ?_
   refine Sb 33 rfl ?_  -- 6
   refine S_val (Y_move rfl) ?_
   refine S_val (Y_move rfl) ?_
   refine S_val (Y_len Try.underlying24 rfl) ?_
   refine S_val (Y_lss rfl rfl) ?_
   refine S_nl rfl rfl ?_
   refine th_n (hK10 _ _ ?_)
   clear hK10 K10
   refine S_if rfl (fun hb2 => ?_) (fun hb2 => ?_)  -- c2
   · -- c2T
    replace hb2 := nb_tt hb2
    have hk1 : k < h.cells.length := by omega
    have hk2 : k < (namesL h.cells.length (slideL h)).length := by rw [namesL_len]; exact hk1
    obtain ⟨g4, o4, rfl, hp4, hc4⟩ := hR3.int hk2
    rw [namesL_at] at hc4
    refine wp_skip ?_
    refine th_n (hK9 _ _ ?_)
    clear hK9 K9
    refine wp_seq_k fun K11 hK11 => ?_
    refine wp_block ?_
    refine wp_seq_k fun K12 hK12 => ?_
    refine Sb 33 rfl ?_  -- 8
    refine S_val (Y_move rfl) ?_
    refine S_val (Y_move rfl) ?_
    refine S_val (Y_index Try.underlying24 sz3 rfl rfl (by first | assumption | omega)) ?_
    refine S_val (Y_load Try.underlying3 rfl rfl (by first | assumption | exact B1.at (by rfl))) ?_  -- l3
    refine S_val (Y_geq rfl rfl) ?_
    refine S_val (Y_move rfl) ?_
    refine S_g 22 rfl (fun hb3 => ?_) (fun hb3 => ?_)  -- g1
    · -- g1T
     replace hb3 := nb_tt hb3
     have hrk : rB h k = true := by cases hh : rB h k with
       | true => rfl
       | false => have := slide_no hh; omega
     have hms := movedN_snoc (slideL h) (selL k (rB h)) (k : Int)
     rw [← selL_yes hrk] at hms
     refine S_on rfl rfl ?_
     refine S_val (Y_move rfl) ?_
     refine S_on rfl rfl ?_
     refine S_val (Y_move rfl) ?_
     refine S_on rfl rfl ?_
     refine S_val (Y_index Try.underlying24 sz3 rfl rfl (by first | assumption | omega)) ?_
     refine S_on rfl rfl ?_
     refine S_val (Y_load Try.underlying3 rfl rfl (by first | assumption | exact B1.at (by rfl))) ?_  -- l4
     refine S_on rfl rfl ?_
     refine S_val (Y_move rfl) ?_
     refine S_on rfl rfl ?_
     refine S_val (Y_neq rfl rfl) ?_
     refine S_val (Y_pickT rfl rfl) ?_
     refine S_nl rfl rfl ?_
     refine th_n (hK12 _ _ ?_)
     clear hK12 K12
     refine S_if rfl (fun hb4 => ?_) (fun hb4 => ?_)  -- c3
     · -- c3T
      first | with_reducible (replace hb4 := nb_nt hb4) | with_reducible (replace hb4 := nb_tt hb4) | with_reducible (replace hb4 := nb_bt hb4) | skip
      refine Sb 33 rfl ?_  -- 9
      refine S_val (Y_move rfl) ?_
      refine S_val (Y_inc rfl rfl (by omega)) ?_
      refine S_val (Y_assign rfl) ?_
      refine S_nl rfl rfl ?_
      refine ib_n ?_
      refine th_n (hK11 _ _ ?_)
      clear hK11 K11
      refine Sb 33 rfl ?_  -- 7
      refine S_val (Y_move rfl) ?_
      refine S_val (Y_inc rfl rfl (by omega)) ?_
      refine S_val (Y_assign rfl) ?_
      refine S_nl rfl rfl ?_
      refine th_n ?_
      go_roundw  -- e1 of L1
      case rel =>
       refine ⟨?_, GL4⟩
       rw [if_pos (by omega)] at hms
       exact ⟨k + 1, rfl, by rw [hms], by omega⟩
      case measure =>
       exact dec_nat (by omega)
     · -- c3F
      first | with_reducible (replace hb4 := nb_nf hb4) | with_reducible (replace hb4 := nb_tf hb4) | with_reducible (replace hb4 := nb_bf hb4) | skip
      refine wp_skip ?_
      refine ib_n ?_
      refine th_n (hK11 _ _ ?_)
      clear hK11 K11
      refine Sb 33 rfl ?_  -- 7
      refine S_val (Y_move rfl) ?_
      refine S_val (Y_inc rfl rfl (by omega)) ?_
      refine S_val (Y_assign rfl) ?_
      refine S_nl rfl rfl ?_
      refine th_n ?_
      go_roundw  -- e2 of L1
      case rel =>
       refine ⟨?_, GL4⟩
       rw [if_neg (by omega)] at hms
       exact ⟨k + 1, rfl, by rw [hms]; rfl, by omega⟩
      case measure =>
       exact dec_nat (by omega)
    · -- g1F
     replace hb3 := nb_tf hb3
     have hrk : rB h k = false := by cases hh : rB h k with
       | false => rfl
       | true => have := slide_yes hk1 hh; omega
     refine S_off rfl rfl ?_
     refine S_off rfl rfl ?_
     refine S_off rfl rfl ?_
     refine S_off rfl rfl ?_
     refine S_off rfl rfl ?_
     refine S_off rfl rfl ?_
     refine S_val (Y_pickF rfl rfl) ?_
     refine S_nl rfl rfl ?_
     refine th_n (hK12 _ _ ?_)
     clear hK12 K12
     refine S_ifF rfl ?_
     refine wp_skip ?_
     refine ib_n ?_
     refine th_n (hK11 _ _ ?_)
     clear hK11 K11
     refine Sb 33 rfl ?_  -- 7
     refine S_val (Y_move rfl) ?_
     refine S_val (Y_inc rfl rfl (by omega)) ?_
     refine S_val (Y_assign rfl) ?_
     refine S_nl rfl rfl ?_
     refine th_n ?_
     go_roundw  -- e3 of L1
     case rel =>
      refine ⟨?_, GL4⟩
      exact ⟨k + 1, rfl, by rw [selL_no hrk], by omega⟩
     case measure =>
      exact dec_nat (by omega)
   · -- c2F
    replace hb2 := nb_tf hb2
    refine wp_exit ?_
    refine th_x ?_
    try clear GL4
    refine th_x ?_
    refine ib_e ?_
    refine th_n (hK7 _ _ ?_)
    clear hK9 K9 hK7 K7
    refine wp_seq_k fun K13 hK13 => ?_
    refine Sb 33 rfl ?_  -- 10
    refine S_val (Y_move rfl) ?_
    refine S_val (Y_assign rfl) ?_
    refine S_nl rfl rfl ?_
    refine th_n (hK13 _ _ ?_)
    clear hK13 K13
    refine wp_ret ?_
    refine ret_r1 rfl rfl ?_  -- r2
    have hkN : k = h.cells.length := by omega
    rw [hkN]
    exact ⟨by rw [movedV_t hb1]; rfl, G⟩
end
/-! WalkY -/
section
open Go Go.RowKit
attribute [local irreducible] wpList wpAnyH Code.wp dOp
set_option maxHeartbeats 400000 in
set_option maxRecDepth 20000 in
theorem impl_gathered_c (Pr PF : Nat → Prop) (A B E : Option Addr) (h : LH) (o : List Int) (c d e : Nat) (w : World) (hA : RC Pr w A h.cells) (hB : R1 Pr w B (ints h.roots)) (hE : R1 PF w E (ints o)) (hz : hsize h ≤ 1048576) (va : Valid h) (hbn : Bnd h.cells.length o) :
    Calls Try.prog 75 #[.agg #[.slice A h.cells.length c, .slice B h.roots.length d], .slice E o.length e] w (Ret fun v w' => ∃ A1 B1 n1 c1 n2 c2 rs, v = .agg #[.slice A1 n1 c1, .slice B1 n2 c2] ∧ n1 = (gathH h o).cells.length ∧ n2 = (gathH h o).roots.length ∧ OH (fun i => w.heap.size ≤ i) w' 37 3 A1 B1 (gathH h o) rs ∧ Grow w w') := by
 have hz1 := hsize_cells h
 have hz2 := hsize_roots h
 have hne : (37 : TypeId) ≠ 3 := by decide
 have hol := hbn.len
 have h40 := va.le
 have hr4 := va.roots4
 refine enter Try.func75 rfl Try.ntmps75 (L := [_,_,_,_,_,_,_,_,_,_,_,_,_,_,_,_,_,_,_,_,_,_,_,_,_,_,_,_,_,_,_,_,_,_,_,_,_,_,_,_,_,_,_,_,_]) rfl ?_
 have G := Mod.refl No w
 have hA0 := hA
 have hB0 := hB
 have hE0 := hE
 refine wp_seq_k fun K1 hK1 => ?_
 refine Sb 45 rfl ?_  -- 0
 refine S_box (cs := [_, _]) rfl rfl ?_
 intro b1 w1 fb1 g1 B1
 have lb1 := B1.lt
 replace hA := hA.grow g1
 replace hB := hB.grow g1
 replace hE := hE.grow g1
 replace G := G.grow g1
 have zg1 := g1.size
 refine S_alloc (cs := [_, _]) zr26 rfl ?_
 intro b2 w2 fb2 g2 B2
 have lb2 := B2.lt
 replace hA := hA.grow g2
 replace hB := hB.grow g2
 replace hE := hE.grow g2
 replace G := G.grow g2
 replace B1 := B1.grow g2
 have zg2 := g2.size
 refine S_nl rfl rfl ?_
 refine th_n (hK1 _ _ ?_)
 clear hK1 K1
 refine wp_seq_k fun K2 hK2 => ?_
 refine Sb 45 rfl ?_  -- 1
 refine S_val (Y_move rfl) ?_
 refine S_val (Y_field Try.underlying26 rfl fz26_0 (by decide) rfl) ?_
 refine S_val (Y_load Try.underlying23 rfl rfl (B1.at (by rfl))) ?_  -- l1
 refine S_val (Y_len Try.underlying23 rfl) ?_
 refine S_call rfl en64 (impl_numbersIn_c _ _ _ _ _ _ hE hbn (by omega)) ?_  -- k1 impl.numbersIn
 rintro v3 w3 ⟨b3, rfl, fb3, B3, g3⟩
 replace hA := hA.grow g3
 replace hB := hB.grow g3
 replace hE := hE.grow g3
 replace G := G.grow g3
 replace B1 := B1.grow g3
 replace B2 := B2.grow g3
 have zg3 := g3.size
 have lb3 := B3.lt
 have hRn := R1.of_blkE B3
 refine S_val (Y_assign rfl) ?_
 refine S_nl rfl rfl ?_
 refine th_n (hK2 _ _ ?_)
 clear hK2 K2
 refine wp_seq_k fun K3 hK3 => ?_
 refine Sb 45 rfl ?_  -- 2
 refine S_val (Y_field Try.underlying26 rfl fz26_1 (by decide) rfl) ?_
 refine S_val (Y_load Try.underlying24 rfl rfl (B1.at (by rfl))) ?_  -- l2
 refine S_val (Y_move rfl) ?_
 refine S_call rfl en100 (impl_renamed_c _ _ _ _ _ o _ _ _ _ hB hRn (by omega) (valid_roots va) (fun x hx => (hbn.2 x hx).1)) ?_  -- k2 impl.renamed
 rintro v4 w4 ⟨A4, q4, cap4, rfl, hq4, O4, g4⟩
 replace hA := hA.grow g4
 replace hB := hB.grow g4
 replace hE := hE.grow g4
 replace hRn := hRn.grow g4
 replace G := G.grow g4
 replace B1 := B1.grow g4
 replace B2 := B2.grow g4
 replace B3 := B3.grow g4
 have zg4 := g4.size
 subst hq4
 replace O4 := O4.lt
 have OX := O4
 refine S_val (Y_build (cs := [_, _]) zr26 pc26 rfl rfl) ?_
 refine S_alloc (cs := [_, _]) zr26 rfl ?_
 intro b5 w5 fb5 g5 B5
 have lb5 := B5.lt
 replace hA := hA.grow g5
 replace hB := hB.grow g5
 replace hE := hE.grow g5
 replace hRn := hRn.grow g5
 replace OX := OX.grow g5
 replace G := G.grow g5
 replace B1 := B1.grow g5
 replace B2 := B2.grow g5
 replace B3 := B3.grow g5
 have zg5 := g5.size
 refine S_stM (pre := []) (old := [_, _]) (post := []) (vs := [_, _]) sz26 rfl rfl rfl (by first | rfl | assumption) B5 rfl rfl ?_
 intro w6 m6 X6
 replace B5 := Blk.eq (ys := [_, _]) X6 rfl
 clear X6
 replace G := G.abv m6
 replace hA := hA0.grow G
 replace hB := hB0.grow G
 replace hE := hE0.grow G
 replace hRn := hRn.md m6
 replace OX := OX.md m6
 replace B1 := B1.md m6
 replace B2 := B2.md m6
 replace B3 := B3.md m6
 have zm6 := m6.size
 refine S_nl rfl rfl ?_
 refine th_n (hK3 _ _ ?_)
 clear hK3 K3
 refine wp_seq_k fun K4 hK4 => ?_
 refine wp_seq_k fun K5 hK5 => ?_
 refine Sb 45 rfl ?_  -- 3
 refine S_val (Y_move rfl) ?_
 refine S_val (Y_len Try.underlying24 rfl) ?_
 refine S_val (Y_move rfl) ?_
 refine S_nl rfl rfl ?_
 refine th_n (hK5 _ _ ?_)
 clear hK5 K5
 refine wp_block ?_
 obtain ⟨wz, hwz⟩ : ∃ x, x = w6.heap.size := ⟨_, rfl⟩
 have OC1 : OW (fun i => wz ≤ i) w6 37 3 none 0 0 (flatC ([] : List LC) []) := OW.nil _ _ _ _
 have OR1 : ORs (fun i => wz ≤ i) w6 3 ([] : List LC) [] := ORs.nil _ _ _
 go_loopw [22] (fun u22 wr => (∃ (k q cap : Nat) (A1 : Option Addr) (rs : List (Option Addr × Nat)), u22 = .int .i64 k ∧ k ≤ o.length ∧ q = k ∧ Blk wr b5 26 [.slice A1 q cap, .slice A4 h.roots.length cap4].toArray ∧ OW (fun i => wz ≤ i) wr 37 3 A1 q cap (flatC ((o.take k).map (gcell h.cells o)) rs) ∧ ORs (fun i => wz ≤ i) wr 3 ((o.take k).map (gcell h.cells o)) rs) ∧ Mod (fun i => i = b5 ∨ wz ≤ i) w6 wr) (fun u22 wr => o.length - (intOf u22).toNat)  -- L1
 case atStart =>
  refine ⟨?_, Mod.refl _ _⟩
  exact ⟨0, 0, 0, none, [], rfl, by omega, rfl, B5, OC1, OR1⟩
 case round =>
  obtain ⟨w7, rfl⟩ : ∃ x : World, x = wr := ⟨_, rfl⟩
  obtain ⟨hrel, g7⟩ := hrel
  clear B5
  clear OC1
  clear OR1
  replace G := G.abv g7
  replace hA := hA0.grow G
  replace hB := hB0.grow G
  replace hE := hE0.grow G
  replace hRn := hRn.md g7
  replace OX := OX.md g7
  replace B1 := B1.md g7
  replace B2 := B2.md g7
  replace B3 := B3.md g7
  have zg7 := g7.size
  obtain ⟨k, q1, cap1, A1, rs, rfl, hk, hq1, B5, OC1, OR1⟩ := hrel
  have hlk : ((o.take k).map (gcell h.cells o)).length = k := by simp; omega
  have GL7 := g7
  refine wp_seq_k fun K6 hK6 => ?_
  refine Sb 45 rfl ?_  -- 4
  refine S_val (Y_lss rfl rfl) ?_
  refine S_nl rfl rfl ?_
  refine th_n (hK6 _ _ ?_)
  clear hK6 K6
  refine wp_seq_k fun K7 hK7 => ?_
  refine S_if rfl (fun hb1 => ?_) (fun hb1 => ?_)  -- c1
  · -- c1T
   replace hb1 := nb_tt hb1
   have hk1 : k < o.length := by omega
   obtain ⟨n, hn, hnN, hng⟩ := bnd_at hbn hk1
   obtain ⟨g4, o4, rfl, hp4, hc4⟩ := hE.int hk1
   rw [hn] at hc4
   obtain ⟨g2, o2, E2, d2, rfl, hp2, cc20, hE20⟩ := hA0.cell hnN
   have cc2 := cc20.grow G
   have hE2 := hE20.grow G
   have hr3 := va.refs3 hnN
   have hgs := gath_succ (h := h) hk1 hn hnN
   replace OC1 := OC1.lt
   replace OR1 := OR1.lt
   refine wp_skip ?_
   refine th_n (hK7 _ _ ?_)
   clear hK7 K7
   refine wp_seq_k fun K8 hK8 => ?_
   refine wp_block ?_
   refine wp_seq_k fun K9 hK9 => ?_
   refine Sb 45 rfl ?_  -- 5
   refine S_val (Y_index Try.underlying24 sz3 rfl rfl (by first | assumption | omega)) ?_
   refine S_val (Y_load Try.underlying3 rfl rfl (by first | assumption | exact cc2.at (by rfl) | exact B1.at (by rfl) | exact B2.at (by rfl) | exact B3.at (by rfl) | exact B5.at (by rfl))) ?_  -- l3
   refine S_val (Y_assign rfl) ?_
   refine S_nl rfl rfl ?_
   refine th_n (hK9 _ _ ?_)
   clear hK9 K9
   refine wp_seq_k fun K10 hK10 => ?_
   refine Sb 45 rfl ?_  -- 6
   refine S_val (Y_field Try.underlying26 rfl fz26_0 (by decide) rfl) ?_
   refine S_val (Y_load Try.underlying23 rfl rfl (B1.at (by rfl))) ?_  -- l4
   refine S_val (Y_move rfl) ?_
   refine S_val (Y_index Try.underlying23 sz37 rfl rfl (by first | assumption | omega)) ?_
   refine S_val (Y_loadS Try.underlying37 rfl sz37 rfl (by first | assumption | exact B1.row (by rfl) | exact B2.row (by rfl) | exact B3.row (by rfl) | exact B5.row (by rfl))) ?_  -- l5
   refine S_alloc (cs := [_, _, _]) zr37 rfl ?_
   intro b8 w8 fb8 g8 B8
   have lb8 := B8.lt
   replace hA := hA.grow g8
   replace hB := hB.grow g8
   replace hE := hE.grow g8
   replace cc2 := cc2.grow g8
   replace hE2 := hE2.grow g8
   replace hRn := hRn.grow g8
   replace OX := OX.grow g8
   replace OC1 := OC1.grow g8
   replace OR1 := OR1.grow g8
   replace G := G.grow g8
   replace GL7 := GL7.grow g8
   replace B1 := B1.grow g8
   replace B2 := B2.grow g8
   replace B3 := B3.grow g8
   replace B5 := B5.grow g8
   have zg8 := g8.size
   refine S_stM (pre := []) (old := [_, _, _]) (post := []) (vs := [_, _, _]) sz37 rfl rfl rfl (by first | rfl | assumption) B8 rfl rfl ?_
   intro w9 m9 X9
   replace B8 := Blk.eq (ys := [_, _, _]) X9 rfl
   clear X9
   replace G := G.abv m9
   first | replace GL7 := GL7.abv m9 | clear GL7
   replace hA := hA0.grow G
   replace hB := hB0.grow G
   replace hE := hE0.grow G
   replace cc2 := cc20.grow G
   replace hE2 := hE20.grow G
   replace hRn := hRn.md m9
   replace OX := OX.md m9
   replace OC1 := OC1.md m9
   replace OR1 := OR1.md m9
   replace B1 := B1.md m9
   replace B2 := B2.md m9
   replace B3 := B3.md m9
   replace B5 := B5.md m9
   have zm9 := m9.size
   refine S_nl rfl rfl ?_
   refine th_n (hK10 _ _ ?_)
   clear hK10 K10
   refine D_start 13 45 (fun w => Mod (fun i => i = b5 ∨ (wz ≤ i ∧ i ≠ b8)) w) follows rfl rfl ?_  -- d1 r7
   intro w10 g10
   replace hA := hA.grow g10
   replace hB := hB.grow g10
   replace hE := hE.grow g10
   replace cc2 := cc2.grow g10
   replace hE2 := hE2.grow g10
   replace hRn := hRn.grow g10
   replace OX := OX.grow g10
   replace OC1 := OC1.grow g10
   replace OR1 := OR1.grow g10
   replace G := G.grow g10
   replace GL7 := GL7.grow g10
   replace B1 := B1.grow g10
   replace B2 := B2.grow g10
   replace B3 := B3.grow g10
   replace B5 := B5.grow g10
   replace B8 := B8.grow g10
   have zg10 := g10.size
   have GS10 := Mod.refl (fun i => i = b5 ∨ (wz ≤ i ∧ i ≠ b8)) w10
   refine Dq (i := 0) rfl GS10 (fun _ _ => Y_field Try.underlying26 rfl fz26_0 (by decide) rfl) ?_
   refine Dq (i := 2) rfl GS10 (fun _ _ => Y_field Try.underlying37 rfl fz37_1 (by decide) rfl) ?_
   refine Dq (i := 3) rfl GS10 (fun _ hs => Y_load Try.underlying3 rfl rfl (by first | exact hs.cell (B8.at (by rfl)) (by intro h; first | omega | (dsimp only at h; omega)))) ?_
   refine Dq (i := 4) rfl GS10 (fun _ _ => Y_field Try.underlying37 rfl fz37_2 (by decide) rfl) ?_
   refine Dq (i := 5) rfl GS10 (fun _ hs => Y_load Try.underlying24 rfl rfl (by first | exact hs.cell (B8.at (by rfl)) (by intro h; first | omega | (dsimp only at h; omega)))) ?_
   refine Dq (i := 6) rfl GS10 (fun _ _ => Y_move rfl) ?_
   refine D_2 (i := 1) (j := 7) (by kernel_rfl) ?_ ?_
   · -- operation 1 comes up
    refine E_val (i := 1) rfl (Y_load Try.underlying23 rfl rfl (B5.at (by rfl))) GS10 ?_
    refine D_1 (i := 7) (by kernel_rfl) ?_
    refine E_call rfl rfl en100 (impl_renamed_c _ _ _ _ _ o _ _ _ _ hE2 hRn (by omega) (valid_refs va hnN) (fun x hx => (hbn.2 x hx).1)) ?_  -- k3 impl.renamed
    rintro v12 w12 ⟨A12, q12, cap12, rfl, hq12, O12, g12⟩
    replace hA := hA.grow g12
    replace hB := hB.grow g12
    replace hE := hE.grow g12
    replace cc2 := cc2.grow g12
    replace hE2 := hE2.grow g12
    replace hRn := hRn.grow g12
    replace OX := OX.grow g12
    replace OC1 := OC1.grow g12
    replace OR1 := OR1.grow g12
    replace G := G.grow g12
    replace GL7 := GL7.grow g12
    replace GS10 := GS10.grow g12
    replace B1 := B1.grow g12
    replace B2 := B2.grow g12
    replace B3 := B3.grow g12
    replace B5 := B5.grow g12
    replace B8 := B8.grow g12
    have zg12 := g12.size
    replace hq12 : q12 = (h.cells[n].refs.map (nameIn o)).length := hq12.trans (List.length_map ..).symm
    subst hq12
    obtain ⟨AY, rfl⟩ : ∃ x, x = A12 := ⟨_, rfl⟩
    obtain ⟨capY, rfl⟩ : ∃ x, x = cap12 := ⟨_, rfl⟩
    have OY := O12
    refine ⟨GS10, ?_⟩
    refine Dq (i := 8) rfl GS10 (fun _ _ => Y_build (cs := [_, _, _]) zr37 pc37 rfl rfl) ?_
    refine D_1 (i := 9) (by kernel_rfl) ?_
    refine E_bs1 (cs := [_, _, _]) (i := 9) rfl Try.underlying23 zr37 sz37 rfl rfl rfl ?_
    intro b13 w13 fb13 g13 B13
    refine ⟨GS10.grow g13, ?_⟩
    have lb13 := B13.lt
    replace hA := hA.grow g13
    replace hB := hB.grow g13
    replace hE := hE.grow g13
    replace cc2 := cc2.grow g13
    replace hE2 := hE2.grow g13
    replace hRn := hRn.grow g13
    replace OX := OX.grow g13
    replace OC1 := OC1.grow g13
    replace OR1 := OR1.grow g13
    replace OY := OY.grow g13
    replace G := G.grow g13
    replace GL7 := GL7.grow g13
    replace GS10 := GS10.grow g13
    replace B1 := B1.grow g13
    replace B2 := B2.grow g13
    replace B3 := B3.grow g13
    replace B5 := B5.grow g13
    replace B8 := B8.grow g13
    have zg13 := g13.size
    refine D_1 (i := 10) (by kernel_rfl) ?_
    refine E_app2 (i := 10) rfl Try.underlying23 zr37 sz37 by37 rfl rfl OC1 rfl (Src.blk B13) (by simp [Value.oneCell']) (by omega) (Pr' := fun i => wz ≤ i ∧ i ≠ b8) (fun i hi => by omega) (by omega) ?_
    intro A14 cap14 w14 X14 m14 n14
    replace OR1 := OR1.app OC1 hne n14
    replace OC1 := X14
    clear X14 n14
    replace G := G.abv m14
    replace GL7 := GL7.trn m14
    replace GS10 := GS10.trn m14
    replace hA := hA0.grow G
    replace hB := hB0.grow G
    replace hE := hE0.grow G
    replace cc2 := cc20.grow G
    replace hE2 := hE20.grow G
    replace hRn := hRn.md m14
    replace OX := OX.md m14
    replace OY := OY.md m14
    replace B1 := B1.md m14
    replace B2 := B2.md m14
    replace B3 := B3.md m14
    replace B5 := B5.md m14
    replace B8 := B8.md m14
    have zm14 := m14.size
    refine ⟨GS10, ?_⟩
    have OR2 := OR1.more (c := ⟨true, h.cells[n].data, h.cells[n].refs.map (nameIn o)⟩) OY (fun i hi => by omega) (Pr' := fun i => wz ≤ i) (fun i hi => by omega) (fun i hi => by omega)
    replace OC1 : OW (fun i => wz ≤ i ∧ i ≠ b8) w14 37 3 A14 (q1 + 1) cap14 (flatC ((o.take (k + 1)).map (gcell h.cells o)) (rs ++ [(AY, capY)])) := by rw [hgs, ← flat_more OR1.len]; exact OC1
    rw [← hgs] at OR2
    refine Dq (i := 11) rfl GS10 (fun _ _ => Y_field Try.underlying26 rfl fz26_0 (by decide) rfl) ?_
    refine D_1 (i := 12) (by kernel_rfl) ?_
    refine E_stM (pre := []) (old := [_]) (post := [_]) (vs := [_]) (i := 12) rfl sz23 rfl rfl rfl (by first | rfl | assumption) B5 rfl rfl ?_
    intro w15 m15 X15
    replace B5 := Blk.eq (ys := [_, _]) X15 rfl
    clear X15
    replace G := G.abv m15
    replace GL7 := GL7.trn m15
    replace GS10 := GS10.trn m15
    replace hA := hA0.grow G
    replace hB := hB0.grow G
    replace hE := hE0.grow G
    replace cc2 := cc20.grow G
    replace hE2 := hE20.grow G
    replace hRn := hRn.md m15
    replace OX := OX.md m15
    replace OC1 := OC1.md m15
    replace OR2 := OR2.md m15
    replace B1 := B1.md m15
    replace B2 := B2.md m15
    replace B3 := B3.md m15
    replace B8 := B8.md m15
    have zm15 := m15.size
    refine ⟨GS10, ?_⟩
    refine D_en (by kernel_rfl) rfl rfl ?_
    refine ib_n ?_
    refine th_n (hK8 _ _ ?_)
    clear hK8 K8
    refine Sb 45 rfl ?_  -- 8
    refine S_val (Y_inc rfl rfl (by omega)) ?_
    refine S_val (Y_move rfl) ?_
    refine S_nl rfl rfl ?_
    refine th_n ?_
    go_roundw  -- e1 of L1
    case rel =>
     refine ⟨?_, GL7⟩
     exact ⟨k + 1, _, _, _, _, rfl, by omega, by omega, B5, OC1.weak (fun i hi => hi.1), OR2⟩
    case measure =>
     exact dec_nat (by omega)
   · -- operation 7 comes up
    refine E_call rfl rfl en100 (impl_renamed_c _ _ _ _ _ o _ _ _ _ hE2 hRn (by omega) (valid_refs va hnN) (fun x hx => (hbn.2 x hx).1)) ?_  -- k4 impl.renamed
    rintro v16 w16 ⟨A16, q16, cap16, rfl, hq16, O16, g16⟩
    replace hA := hA.grow g16
    replace hB := hB.grow g16
    replace hE := hE.grow g16
    replace cc2 := cc2.grow g16
    replace hE2 := hE2.grow g16
    replace hRn := hRn.grow g16
    replace OX := OX.grow g16
    replace OC1 := OC1.grow g16
    replace OR1 := OR1.grow g16
    replace G := G.grow g16
    replace GL7 := GL7.grow g16
    replace GS10 := GS10.grow g16
    replace B1 := B1.grow g16
    replace B2 := B2.grow g16
    replace B3 := B3.grow g16
    replace B5 := B5.grow g16
    replace B8 := B8.grow g16
    have zg16 := g16.size
    replace hq16 : q16 = (h.cells[n].refs.map (nameIn o)).length := hq16.trans (List.length_map ..).symm
    subst hq16
    obtain ⟨AY, rfl⟩ : ∃ x, x = A16 := ⟨_, rfl⟩
    obtain ⟨capY, rfl⟩ : ∃ x, x = cap16 := ⟨_, rfl⟩
    have OY := O16
    refine ⟨GS10, ?_⟩
    refine Dq (i := 8) rfl GS10 (fun _ _ => Y_build (cs := [_, _, _]) zr37 pc37 rfl rfl) ?_
    refine D_2 (i := 1) (j := 9) (by kernel_rfl) ?_ ?_
    · -- operation 1 comes up
     refine E_val (i := 1) rfl (Y_load Try.underlying23 rfl rfl (B5.at (by rfl))) GS10 ?_
     refine D_1 (i := 9) (by kernel_rfl) ?_
     refine E_bs1 (cs := [_, _, _]) (i := 9) rfl Try.underlying23 zr37 sz37 rfl rfl rfl ?_
     intro b18 w18 fb18 g18 B18
     refine ⟨GS10.grow g18, ?_⟩
     have lb18 := B18.lt
     replace hA := hA.grow g18
     replace hB := hB.grow g18
     replace hE := hE.grow g18
     replace cc2 := cc2.grow g18
     replace hE2 := hE2.grow g18
     replace hRn := hRn.grow g18
     replace OX := OX.grow g18
     replace OC1 := OC1.grow g18
     replace OR1 := OR1.grow g18
     replace OY := OY.grow g18
     replace G := G.grow g18
     replace GL7 := GL7.grow g18
     replace GS10 := GS10.grow g18
     replace B1 := B1.grow g18
     replace B2 := B2.grow g18
     replace B3 := B3.grow g18
     replace B5 := B5.grow g18
     replace B8 := B8.grow g18
     have zg18 := g18.size
     refine D_1 (i := 10) (by kernel_rfl) ?_
     refine E_app2 (i := 10) rfl Try.underlying23 zr37 sz37 by37 rfl rfl OC1 rfl (Src.blk B18) (by simp [Value.oneCell']) (by omega) (Pr' := fun i => wz ≤ i ∧ i ≠ b8) (fun i hi => by omega) (by omega) ?_
     intro A19 cap19 w19 X19 m19 n19
     replace OR1 := OR1.app OC1 hne n19
     replace OC1 := X19
     clear X19 n19
     replace G := G.abv m19
     replace GL7 := GL7.trn m19
     replace GS10 := GS10.trn m19
     replace hA := hA0.grow G
     replace hB := hB0.grow G
     replace hE := hE0.grow G
     replace cc2 := cc20.grow G
     replace hE2 := hE20.grow G
     replace hRn := hRn.md m19
     replace OX := OX.md m19
     replace OY := OY.md m19
     replace B1 := B1.md m19
     replace B2 := B2.md m19
     replace B3 := B3.md m19
     replace B5 := B5.md m19
     replace B8 := B8.md m19
     have zm19 := m19.size
     refine ⟨GS10, ?_⟩
     have OR2 := OR1.more (c := ⟨true, h.cells[n].data, h.cells[n].refs.map (nameIn o)⟩) OY (fun i hi => by omega) (Pr' := fun i => wz ≤ i) (fun i hi => by omega) (fun i hi => by omega)
     replace OC1 : OW (fun i => wz ≤ i ∧ i ≠ b8) w19 37 3 A19 (q1 + 1) cap19 (flatC ((o.take (k + 1)).map (gcell h.cells o)) (rs ++ [(AY, capY)])) := by rw [hgs, ← flat_more OR1.len]; exact OC1
     rw [← hgs] at OR2
     refine Dq (i := 11) rfl GS10 (fun _ _ => Y_field Try.underlying26 rfl fz26_0 (by decide) rfl) ?_
     refine D_1 (i := 12) (by kernel_rfl) ?_
     refine E_stM (pre := []) (old := [_]) (post := [_]) (vs := [_]) (i := 12) rfl sz23 rfl rfl rfl (by first | rfl | assumption) B5 rfl rfl ?_
     intro w20 m20 X20
     replace B5 := Blk.eq (ys := [_, _]) X20 rfl
     clear X20
     replace G := G.abv m20
     replace GL7 := GL7.trn m20
     replace GS10 := GS10.trn m20
     replace hA := hA0.grow G
     replace hB := hB0.grow G
     replace hE := hE0.grow G
     replace cc2 := cc20.grow G
     replace hE2 := hE20.grow G
     replace hRn := hRn.md m20
     replace OX := OX.md m20
     replace OC1 := OC1.md m20
     replace OR2 := OR2.md m20
     replace B1 := B1.md m20
     replace B2 := B2.md m20
     replace B3 := B3.md m20
     replace B8 := B8.md m20
     have zm20 := m20.size
     refine ⟨GS10, ?_⟩
     refine D_en (by kernel_rfl) rfl rfl ?_
     refine ib_n ?_
     refine th_n (hK8 _ _ ?_)
     clear hK8 K8
     refine Sb 45 rfl ?_  -- 8
     refine S_val (Y_inc rfl rfl (by omega)) ?_
     refine S_val (Y_move rfl) ?_
     refine S_nl rfl rfl ?_
     refine th_n ?_
     go_roundw  -- e2 of L1
     case rel =>
      refine ⟨?_, GL7⟩
      exact ⟨k + 1, _, _, _, _, rfl, by omega, by omega, B5, OC1.weak (fun i hi => hi.1), OR2⟩
     case measure =>
      exact dec_nat (by omega)
    · -- operation 9 comes up
     refine E_bs1 (cs := [_, _, _]) (i := 9) rfl Try.underlying23 zr37 sz37 rfl rfl rfl ?_
     intro b21 w21 fb21 g21 B21
     refine ⟨GS10.grow g21, ?_⟩
     have lb21 := B21.lt
     replace hA := hA.grow g21
     replace hB := hB.grow g21
     replace hE := hE.grow g21
     replace cc2 := cc2.grow g21
     replace hE2 := hE2.grow g21
     replace hRn := hRn.grow g21
     replace OX := OX.grow g21
     replace OC1 := OC1.grow g21
     replace OR1 := OR1.grow g21
     replace OY := OY.grow g21
     replace G := G.grow g21
     replace GL7 := GL7.grow g21
     replace GS10 := GS10.grow g21
     replace B1 := B1.grow g21
     replace B2 := B2.grow g21
     replace B3 := B3.grow g21
     replace B5 := B5.grow g21
     replace B8 := B8.grow g21
     have zg21 := g21.size
     refine D_1 (i := 1) (by kernel_rfl) ?_
     refine E_val (i := 1) rfl (Y_load Try.underlying23 rfl rfl (B5.at (by rfl))) GS10 ?_
     refine D_1 (i := 10) (by kernel_rfl) ?_
     refine E_app2 (i := 10) rfl Try.underlying23 zr37 sz37 by37 rfl rfl OC1 rfl (Src.blk B21) (by simp [Value.oneCell']) (by omega) (Pr' := fun i => wz ≤ i ∧ i ≠ b8) (fun i hi => by omega) (by omega) ?_
     intro A23 cap23 w23 X23 m23 n23
     replace OR1 := OR1.app OC1 hne n23
     replace OC1 := X23
     clear X23 n23
     replace G := G.abv m23
     replace GL7 := GL7.trn m23
     replace GS10 := GS10.trn m23
     replace hA := hA0.grow G
     replace hB := hB0.grow G
     replace hE := hE0.grow G
     replace cc2 := cc20.grow G
     replace hE2 := hE20.grow G
     replace hRn := hRn.md m23
     replace OX := OX.md m23
     replace OY := OY.md m23
     replace B1 := B1.md m23
     replace B2 := B2.md m23
     replace B3 := B3.md m23
     replace B5 := B5.md m23
     replace B8 := B8.md m23
     have zm23 := m23.size
     refine ⟨GS10, ?_⟩
     have OR2 := OR1.more (c := ⟨true, h.cells[n].data, h.cells[n].refs.map (nameIn o)⟩) OY (fun i hi => by omega) (Pr' := fun i => wz ≤ i) (fun i hi => by omega) (fun i hi => by omega)
     replace OC1 : OW (fun i => wz ≤ i ∧ i ≠ b8) w23 37 3 A23 (q1 + 1) cap23 (flatC ((o.take (k + 1)).map (gcell h.cells o)) (rs ++ [(AY, capY)])) := by rw [hgs, ← flat_more OR1.len]; exact OC1
     rw [← hgs] at OR2
     refine Dq (i := 11) rfl GS10 (fun _ _ => Y_field Try.underlying26 rfl fz26_0 (by decide) rfl) ?_
     refine D_1 (i := 12) (by kernel_rfl) ?_
     refine E_stM (pre := []) (old := [_]) (post := [_]) (vs := [_]) (i := 12) rfl sz23 rfl rfl rfl (by first | rfl | assumption) B5 rfl rfl ?_
     intro w24 m24 X24
     replace B5 := Blk.eq (ys := [_, _]) X24 rfl
     clear X24
     replace G := G.abv m24
     replace GL7 := GL7.trn m24
     replace GS10 := GS10.trn m24
     replace hA := hA0.grow G
     replace hB := hB0.grow G
     replace hE := hE0.grow G
     replace cc2 := cc20.grow G
     replace hE2 := hE20.grow G
     replace hRn := hRn.md m24
     replace OX := OX.md m24
     replace OC1 := OC1.md m24
     replace OR2 := OR2.md m24
     replace B1 := B1.md m24
     replace B2 := B2.md m24
     replace B3 := B3.md m24
     replace B8 := B8.md m24
     have zm24 := m24.size
     refine ⟨GS10, ?_⟩
     refine D_en (by kernel_rfl) rfl rfl ?_
     refine ib_n ?_
     refine th_n (hK8 _ _ ?_)
     clear hK8 K8
     refine Sb 45 rfl ?_  -- 8
     refine S_val (Y_inc rfl rfl (by omega)) ?_
     refine S_val (Y_move rfl) ?_
     refine S_nl rfl rfl ?_
     refine th_n ?_
     go_roundw  -- e3 of L1
     case rel =>
      refine ⟨?_, GL7⟩
      exact ⟨k + 1, _, _, _, _, rfl, by omega, by omega, B5, OC1.weak (fun i hi => hi.1), OR2⟩
     case measure =>
      exact dec_nat (by omega)
  · -- c1F
   replace hb1 := nb_tf hb1
   refine wp_exit ?_
   refine th_x ?_
   try clear GL7
   refine th_x ?_
   refine ib_e ?_
   refine th_n (hK4 _ _ ?_)
   clear hK7 K7 hK4 K4
   refine wp_seq_k fun K11 hK11 => ?_
   refine Sb 45 rfl ?_  -- 9
   refine S_val (Y_loadS Try.underlying26 rfl sz26 rfl (B5.row (by rfl))) ?_  -- l8
   refine S_stM (pre := []) (old := [_, _]) (post := []) (vs := [_, _]) sz26 rfl rfl rfl (by first | rfl | assumption) B2 rfl rfl ?_
   intro w25 m25 X25
   replace B2 := Blk.eq (ys := [_, _]) X25 rfl
   clear X25
   replace G := G.abv m25
   replace hA := hA0.grow G
   replace hB := hB0.grow G
   replace hE := hE0.grow G
   replace hRn := hRn.md m25
   replace OX := OX.md m25
   replace OC1 := OC1.md m25
   replace OR1 := OR1.md m25
   replace B1 := B1.md m25
   replace B3 := B3.md m25
   replace B5 := B5.md m25
   have zm25 := m25.size
   refine S_nl rfl rfl ?_
   refine th_n (hK11 _ _ ?_)
   clear hK11 K11
   refine wp_ret ?_
   refine ret_rc (cs := [_, _]) Try.underlying26 rfl sz26 rfl rfl (B2.row (by rfl)) ?_  -- r1
   rw [List.take_of_length_le (by omega)] at hlk OC1 OR1
   rw [hq1, ← hlk] at OC1
   exact ⟨_, _, _, _, _, _, rs, rfl, by show q1 = (o.map (gcell h.cells o)).length; omega, by simp [gathH], OH.of_parts (h := gathH h o) (OC.grown OC1 OR1 (fun _ h => h) (fun _ h => h)) OX.oi (fun k b h1 h2 h3 => by omega) (fun k hk => by omega) (fun k hk => by omega), G⟩
set_option maxHeartbeats 400000 in
set_option maxRecDepth 20000 in
theorem impl_CopyHeap_c (Pr : Nat → Prop) (A B : Option Addr) (h : LH) (c d : Nat) (w : World) (hA : RC Pr w A h.cells) (hB : R1 Pr w B (ints h.roots)) (hz : hsize h ≤ 1048576) :
    Calls Try.prog 25 #[.agg #[.slice A h.cells.length c, .slice B h.roots.length d]] w (Ret fun v w' => ∃ A1 B1 n1 c1 n2 c2 rs, v = .agg #[.slice A1 n1 c1, .slice B1 n2 c2] ∧ n1 = (copyV h).cells.length ∧ n2 = (copyV h).roots.length ∧ OH (fun i => w.heap.size ≤ i) w' 37 3 A1 B1 (copyV h) rs ∧ Grow w w') := by
 have hz1 := hsize_cells h
 have hz2 := hsize_roots h
 refine enter Try.func25 rfl Try.ntmps25 (L := [_,_,_,_,_,_,_,_,_,_,_]) rfl ?_
 have G := Mod.refl No w
 have hA0 := hA
 have hB0 := hB
 refine wp_seq_k fun K1 hK1 => ?_
 refine Sb 11 rfl ?_  -- 0
 refine S_box (cs := [_, _]) rfl rfl ?_
 intro b1 w1 fb1 g1 B1
 have lb1 := B1.lt
 replace hA := hA.grow g1
 replace hB := hB.grow g1
 replace G := G.grow g1
 have zg1 := g1.size
 refine S_alloc (cs := [_, _]) zr26 rfl ?_
 intro b2 w2 fb2 g2 B2
 have lb2 := B2.lt
 replace hA := hA.grow g2
 replace hB := hB.grow g2
 replace G := G.grow g2
 replace B1 := B1.grow g2
 have zg2 := g2.size
 refine S_nl rfl rfl ?_
 refine th_n (hK1 _ _ ?_)
 clear hK1 K1
 refine wp_seq_k fun K2 hK2 => ?_
 refine wp_seq_k fun K3 hK3 => ?_
 refine Sb 11 rfl ?_  -- 1
 refine S_val (Y_loadS Try.underlying26 rfl sz26 rfl (B1.row (by rfl))) ?_  -- l1
 refine S_call rfl en63 (impl_HeapValid_c _ _ _ _ _ _ _ (by assumption) (by assumption) (by omega)) ?_  -- k1 impl.HeapValid
 rintro v3 w3 ⟨rfl, g3⟩
 replace hA := hA.grow g3
 replace hB := hB.grow g3
 replace G := G.grow g3
 replace B1 := B1.grow g3
 replace B2 := B2.grow g3
 have zg3 := g3.size
 refine S_val (Y_not rfl) ?_
 refine S_nl rfl rfl ?_
 refine th_n (hK3 _ _ ?_)
 clear hK3 K3
 refine S_if rfl (fun hb1 => ?_) (fun hb1 => ?_)  -- c1
 · -- c1T
  first | with_reducible (replace hb1 := nb_nt hb1) | with_reducible (replace hb1 := nb_tt hb1) | with_reducible (replace hb1 := nb_bt hb1) | skip
  refine wp_seq_k fun K4 hK4 => ?_
  refine Sb 11 rfl ?_  -- 2
  refine S_val (Y_build (cs := [_, _]) zr26 pc26 rfl rfl) ?_
  refine S_stM (pre := []) (old := [_, _]) (post := []) (vs := [_, _]) sz26 rfl rfl rfl (by first | rfl | assumption) B2 rfl rfl ?_
  intro w4 m4 X4
  replace B2 := Blk.eq (ys := [_, _]) X4 rfl
  clear X4
  replace G := G.abv m4
  replace hA := hA0.grow G
  replace hB := hB0.grow G
  replace B1 := B1.md m4
  have zm4 := m4.size
  refine S_nl rfl rfl ?_
  refine th_n (hK4 _ _ ?_)
  clear hK4 K4
  refine wp_ret ?_
  refine th_r ?_
  clear hK2 K2
  refine ret_rc (cs := [_, _]) Try.underlying26 rfl sz26 rfl rfl (B2.row (by rfl)) ?_  -- r1
  exact ⟨_, _, _, _, _, _, [], rfl, by rw [copyV_f hb1]; rfl, by rw [copyV_f hb1]; rfl, by rw [copyV_f hb1]; exact OH.nil _ _ _ _ _ _, G⟩
 · -- c1F
  first | with_reducible (replace hb1 := nb_nf hb1) | with_reducible (replace hb1 := nb_tf hb1) | with_reducible (replace hb1 := nb_bf hb1) | skip
  have va := valid_iff.1 hb1
  have hl := va.leads
  have h40 := va.le
  have hr4 := va.roots4
  refine wp_skip ?_
  refine th_n (hK2 _ _ ?_)
  clear hK2 K2
  refine wp_seq_k fun K5 hK5 => ?_
  refine D_start 5 11 (fun w => Mod (fun i => i = b2) w) follows rfl rfl ?_  -- d1 r3
  intro w5 g5
  replace hA := hA.grow g5
  replace hB := hB.grow g5
  replace G := G.grow g5
  replace B1 := B1.grow g5
  replace B2 := B2.grow g5
  have zg5 := g5.size
  have GS5 := Mod.refl (fun i => i = b2) w5
  refine Dq (i := 0) rfl GS5 (fun _ hs => Y_loadS Try.underlying26 rfl sz26 rfl (by first | exact CellsAt.mod (B1.row (by rfl)) hs (by intro h; first | omega | (dsimp only at h; omega)))) ?_
  refine Dq (i := 1) rfl GS5 (fun _ hs => Y_loadS Try.underlying26 rfl sz26 rfl (by first | exact CellsAt.mod (B1.row (by rfl)) hs (by intro h; first | omega | (dsimp only at h; omega)))) ?_
  refine D_1 (i := 2) (by kernel_rfl) ?_
  refine E_call rfl rfl en73 (impl_metOrder_c _ _ _ _ _ _ _ (by assumption) (by assumption) (by omega) (by assumption) (by omega)) ?_  -- k2 impl.metOrder
  rintro v6 w6 ⟨A6, q6, cap6, rfl, hq6, O6, g6⟩
  replace hA := hA.grow g6
  replace hB := hB.grow g6
  replace G := G.grow g6
  replace GS5 := GS5.grow g6
  replace B1 := B1.grow g6
  replace B2 := B2.grow g6
  have zg6 := g6.size
  subst hq6
  replace O6 := O6.lt
  have hbn : Bnd h.cells.length (orderL h.cells h.roots nn) := orderL_bnd hl
  have hol := hbn.len
  have hRo := O6.r1
  refine ⟨GS5, ?_⟩
  refine D_1 (i := 3) (by kernel_rfl) ?_
  refine E_call rfl rfl en75 (impl_gathered_c _ _ _ _ _ h (orderL h.cells h.roots nn) _ _ _ _ hA hB hRo (by omega) va hbn) ?_  -- k3 impl.gathered
  rintro v7 w7 ⟨A7, B7, n17, c17, n27, c27, rs7, rfl, hn17, hn27, O7, g7⟩
  replace hA := hA.grow g7
  replace hB := hB.grow g7
  replace hRo := hRo.grow g7
  replace G := G.grow g7
  replace GS5 := GS5.grow g7
  replace B1 := B1.grow g7
  replace B2 := B2.grow g7
  have zg7 := g7.size
  have hn1 := hn17
  have hn2 := hn27
  have OG := O7.lt
  refine ⟨GS5, ?_⟩
  refine D_1 (i := 4) (by kernel_rfl) ?_
  refine E_stM (pre := []) (old := [_, _]) (post := []) (vs := [_, _]) (i := 4) rfl sz26 rfl rfl rfl (by first | rfl | assumption) B2 rfl rfl ?_
  intro w8 m8 X8
  replace B2 := Blk.eq (ys := [_, _]) X8 rfl
  clear X8
  replace G := G.abv m8
  replace GS5 := GS5.trn m8
  replace hA := hA0.grow G
  replace hB := hB0.grow G
  replace hRo := hRo.md m8
  replace OG := OG.md m8
  replace B1 := B1.md m8
  have zm8 := m8.size
  refine ⟨GS5, ?_⟩
  refine D_en (by kernel_rfl) rfl rfl ?_
  refine th_n (hK5 _ _ ?_)
  clear hK5 K5
  refine wp_ret ?_
  refine ret_rc (cs := [_, _]) Try.underlying26 rfl sz26 rfl rfl (B2.row (by rfl)) ?_  -- r2
  exact ⟨_, _, _, _, _, _, _, rfl, by rw [copyV_t hb1]; exact hn1, by rw [copyV_t hb1]; exact hn2, by rw [copyV_t hb1]; exact OG.weak (fun i hi => by omega), G⟩
set_option maxHeartbeats 400000 in
set_option maxRecDepth 20000 in
theorem impl_SlideHeap_c (Pr : Nat → Prop) (A B : Option Addr) (h : LH) (c d : Nat) (w : World) (hA : RC Pr w A h.cells) (hB : R1 Pr w B (ints h.roots)) (hz : hsize h ≤ 1048576) :
    Calls Try.prog 49 #[.agg #[.slice A h.cells.length c, .slice B h.roots.length d]] w (Ret fun v w' => ∃ A1 B1 n1 c1 n2 c2 rs, v = .agg #[.slice A1 n1 c1, .slice B1 n2 c2] ∧ n1 = (slideV h).cells.length ∧ n2 = (slideV h).roots.length ∧ OH (fun i => w.heap.size ≤ i) w' 37 3 A1 B1 (slideV h) rs ∧ Grow w w') := by
 have hz1 := hsize_cells h
 have hz2 := hsize_roots h
 refine enter Try.func49 rfl Try.ntmps49 (L := [_,_,_,_,_,_,_,_,_,_,_]) rfl ?_
 have G := Mod.refl No w
 have hA0 := hA
 have hB0 := hB
 refine wp_seq_k fun K1 hK1 => ?_
 refine Sb 11 rfl ?_  -- 0
 refine S_box (cs := [_, _]) rfl rfl ?_
 intro b1 w1 fb1 g1 B1
 have lb1 := B1.lt
 replace hA := hA.grow g1
 replace hB := hB.grow g1
 replace G := G.grow g1
 have zg1 := g1.size
 refine S_alloc (cs := [_, _]) zr26 rfl ?_
 intro b2 w2 fb2 g2 B2
 have lb2 := B2.lt
 replace hA := hA.grow g2
 replace hB := hB.grow g2
 replace G := G.grow g2
 replace B1 := B1.grow g2
 have zg2 := g2.size
 refine S_nl rfl rfl ?_
 refine th_n (hK1 _ _ ?_)
 clear hK1 K1
 refine wp_seq_k fun K2 hK2 => ?_
 refine wp_seq_k fun K3 hK3 => ?_
 refine Sb 11 rfl ?_  -- 1
 refine S_val (Y_loadS Try.underlying26 rfl sz26 rfl (B1.row (by rfl))) ?_  -- l1
 refine S_call rfl en63 (impl_HeapValid_c _ _ _ _ _ _ _ (by assumption) (by assumption) (by omega)) ?_  -- k1 impl.HeapValid
 rintro v3 w3 ⟨rfl, g3⟩
 replace hA := hA.grow g3
 replace hB := hB.grow g3
 replace G := G.grow g3
 replace B1 := B1.grow g3
 replace B2 := B2.grow g3
 have zg3 := g3.size
 refine S_val (Y_not rfl) ?_
 refine S_nl rfl rfl ?_
 refine th_n (hK3 _ _ ?_)
 clear hK3 K3
 refine S_if rfl (fun hb1 => ?_) (fun hb1 => ?_)  -- c1
 · -- c1T
  first | with_reducible (replace hb1 := nb_nt hb1) | with_reducible (replace hb1 := nb_tt hb1) | with_reducible (replace hb1 := nb_bt hb1) | skip
  refine wp_seq_k fun K4 hK4 => ?_
  refine Sb 11 rfl ?_  -- 2
  refine S_val (Y_build (cs := [_, _]) zr26 pc26 rfl rfl) ?_
  refine S_stM (pre := []) (old := [_, _]) (post := []) (vs := [_, _]) sz26 rfl rfl rfl (by first | rfl | assumption) B2 rfl rfl ?_
  intro w4 m4 X4
  replace B2 := Blk.eq (ys := [_, _]) X4 rfl
  clear X4
  replace G := G.abv m4
  replace hA := hA0.grow G
  replace hB := hB0.grow G
  replace B1 := B1.md m4
  have zm4 := m4.size
  refine S_nl rfl rfl ?_
  refine th_n (hK4 _ _ ?_)
  clear hK4 K4
  refine wp_ret ?_
  refine th_r ?_
  clear hK2 K2
  refine ret_rc (cs := [_, _]) Try.underlying26 rfl sz26 rfl rfl (B2.row (by rfl)) ?_  -- r1
  exact ⟨_, _, _, _, _, _, [], rfl, by rw [slideV_f hb1]; rfl, by rw [slideV_f hb1]; rfl, by rw [slideV_f hb1]; exact OH.nil _ _ _ _ _ _, G⟩
 · -- c1F
  first | with_reducible (replace hb1 := nb_nf hb1) | with_reducible (replace hb1 := nb_tf hb1) | with_reducible (replace hb1 := nb_bf hb1) | skip
  have va := valid_iff.1 hb1
  have hl := va.leads
  have h40 := va.le
  have hr4 := va.roots4
  refine wp_skip ?_
  refine th_n (hK2 _ _ ?_)
  clear hK2 K2
  refine wp_seq_k fun K5 hK5 => ?_
  refine D_start 5 11 (fun w => Mod (fun i => i = b2) w) follows rfl rfl ?_  -- d1 r3
  intro w5 g5
  replace hA := hA.grow g5
  replace hB := hB.grow g5
  replace G := G.grow g5
  replace B1 := B1.grow g5
  replace B2 := B2.grow g5
  have zg5 := g5.size
  have GS5 := Mod.refl (fun i => i = b2) w5
  refine Dq (i := 0) rfl GS5 (fun _ hs => Y_loadS Try.underlying26 rfl sz26 rfl (by first | exact CellsAt.mod (B1.row (by rfl)) hs (by intro h; first | omega | (dsimp only at h; omega)))) ?_
  refine Dq (i := 1) rfl GS5 (fun _ hs => Y_loadS Try.underlying26 rfl sz26 rfl (by first | exact CellsAt.mod (B1.row (by rfl)) hs (by intro h; first | omega | (dsimp only at h; omega)))) ?_
  refine D_1 (i := 2) (by kernel_rfl) ?_
  refine E_call rfl rfl en65 (impl_slideOrder_c _ _ _ _ _ _ _ (by assumption) (by assumption) (by omega) (by assumption)) ?_  -- k2 impl.slideOrder
  rintro v6 w6 ⟨A6, q6, cap6, rfl, hq6, O6, g6⟩
  replace hA := hA.grow g6
  replace hB := hB.grow g6
  replace G := G.grow g6
  replace GS5 := GS5.grow g6
  replace B1 := B1.grow g6
  replace B2 := B2.grow g6
  have zg6 := g6.size
  subst hq6
  replace O6 := O6.lt
  have hbn : Bnd h.cells.length (slideL h) := selL_bnd _ _
  have hol := hbn.len
  have hRo := O6.r1
  refine ⟨GS5, ?_⟩
  refine D_1 (i := 3) (by kernel_rfl) ?_
  refine E_call rfl rfl en75 (impl_gathered_c _ _ _ _ _ h (slideL h) _ _ _ _ hA hB hRo (by omega) va hbn) ?_  -- k3 impl.gathered
  rintro v7 w7 ⟨A7, B7, n17, c17, n27, c27, rs7, rfl, hn17, hn27, O7, g7⟩
  replace hA := hA.grow g7
  replace hB := hB.grow g7
  replace hRo := hRo.grow g7
  replace G := G.grow g7
  replace GS5 := GS5.grow g7
  replace B1 := B1.grow g7
  replace B2 := B2.grow g7
  have zg7 := g7.size
  have hn1 := hn17
  have hn2 := hn27
  have OG := O7.lt
  refine ⟨GS5, ?_⟩
  refine D_1 (i := 4) (by kernel_rfl) ?_
  refine E_stM (pre := []) (old := [_, _]) (post := []) (vs := [_, _]) (i := 4) rfl sz26 rfl rfl rfl (by first | rfl | assumption) B2 rfl rfl ?_
  intro w8 m8 X8
  replace B2 := Blk.eq (ys := [_, _]) X8 rfl
  clear X8
  replace G := G.abv m8
  replace GS5 := GS5.trn m8
  replace hA := hA0.grow G
  replace hB := hB0.grow G
  replace hRo := hRo.md m8
  replace OG := OG.md m8
  replace B1 := B1.md m8
  have zm8 := m8.size
  refine ⟨GS5, ?_⟩
  refine D_en (by kernel_rfl) rfl rfl ?_
  refine th_n (hK5 _ _ ?_)
  clear hK5 K5
  refine wp_ret ?_
  refine ret_rc (cs := [_, _]) Try.underlying26 rfl sz26 rfl rfl (B2.row (by rfl)) ?_  -- r2
  exact ⟨_, _, _, _, _, _, _, rfl, by rw [slideV_t hb1]; exact hn1, by rw [slideV_t hb1]; exact hn2, by rw [slideV_t hb1]; exact OG.weak (fun i hi => by omega), G⟩
end
/-! WalkN -/
section
open Go Go.RowKit
attribute [local irreducible] wpList wpAnyH Code.wp dOp
set_option maxHeartbeats 400000 in
set_option maxRecDepth 20000 in
theorem spec_CommandValid_c (op a b c : Int) (w : World) :
    Calls Try.prog 125 #[.agg #[.int .i64 op, .int .i64 a, .int .i64 b, .int .i64 c]] w (Ret fun v w' => v = .bool (cvB ⟨op, a, b, c⟩) ∧ Grow w w') := by
 refine enter Try.func125 rfl Try.ntmps125 (L := [_,_,_,_,_,_,_,_,_,_,_,_,_,_,_,_,_,_,_,_,_,_,_,_,_,_,_,_,_,_,_,_,_,_,_,_,_,_,_,_,_,_,_,_,_,_,_,_,_,_,_,_,_,_,_,_,_,_,_,_,_,_,_,_,_,_,_,_,_,_,_,_,_,_,_]) rfl ?_
 have G := Mod.refl No w
 refine wp_seq_k fun K1 hK1 => ?_
 refine Sb 75 rfl ?_  -- 0
 refine S_box (cs := [_, _, _, _]) rfl rfl ?_
 intro b1 w1 fb1 g1 B1
 have lb1 := B1.lt
 replace G := G.grow g1
 have zg1 := g1.size
 refine S_val (Y_assign rfl) ?_
 refine S_nl rfl rfl ?_
 refine th_n (hK1 _ _ ?_)
 clear hK1 K1
 refine wp_seq_k fun K2 hK2 => ?_
 refine Sb 75 rfl ?_  -- 1
 refine S_val (Y_field Try.underlying112 rfl fz112_1 (by decide) rfl) ?_
 refine S_val (Y_load Try.underlying3 rfl rfl (B1.at (by rfl))) ?_  -- l1
 refine S_call rfl en68 (spec_l1In_c _ _ _ _) ?_  -- k1 spec.l1In
 rintro v w' ⟨rfl, rfl⟩
 refine S_val (Y_assign rfl) ?_
 refine S_nl rfl rfl ?_
 refine th_n (hK2 _ _ ?_)
 clear hK2 K2
 refine wp_seq_k fun K3 hK3 => ?_
 refine Sb 75 rfl ?_  -- 2
 refine S_val (Y_field Try.underlying112 rfl fz112_2 (by decide) rfl) ?_
 refine S_val (Y_load Try.underlying3 rfl rfl (B1.at (by rfl))) ?_  -- l2
 refine S_call rfl en68 (spec_l1In_c _ _ _ _) ?_  -- k2 spec.l1In
 rintro v w' ⟨rfl, rfl⟩
 refine S_val (Y_assign rfl) ?_
 refine S_nl rfl rfl ?_
 refine th_n (hK3 _ _ ?_)
 clear hK3 K3
 refine wp_seq_k fun K4 hK4 => ?_
 refine wp_seq_k fun K5 hK5 => ?_
 refine Sb 75 rfl ?_  -- 3
 refine S_val (Y_field Try.underlying112 rfl fz112_0 (by decide) rfl) ?_
 refine S_val (Y_load Try.underlying3 rfl rfl (B1.at (by rfl))) ?_  -- l3
 refine S_nl rfl rfl ?_
 refine th_n (hK5 _ _ ?_)
 clear hK5 K5
 refine wp_block ?_
 refine wp_seq_k fun K6 hK6 => ?_
 refine Sb 75 rfl ?_  -- 4
 refine S_val (Y_eql rfl rfl) ?_
 refine S_val (Y_assign rfl) ?_
 refine S_nl rfl rfl ?_
 refine th_n (hK6 _ _ ?_)
 clear hK6 K6
 refine S_if rfl (fun hb1 => ?_) (fun hb1 => ?_)  -- c1
 · -- c1T
  replace hb1 := nb_tt hb1
  refine wp_seq_k fun K7 hK7 => ?_
  refine Sb 75 rfl ?_  -- 5
  refine S_val (Y_move rfl) ?_
  refine S_val (Y_move rfl) ?_
  refine S_g 16 rfl (fun hb2 => ?_) (fun hb2 => ?_)  -- g1
  · -- g1T
   first | with_reducible (replace hb2 := nb_nt hb2) | with_reducible (replace hb2 := nb_tt hb2) | with_reducible (replace hb2 := nb_bt hb2) | skip
   refine S_on rfl rfl ?_
   refine S_val (Y_field Try.underlying112 rfl fz112_2 (by decide) rfl) ?_
   refine S_on rfl rfl ?_
   refine S_val (Y_load Try.underlying3 rfl rfl (B1.at (by rfl))) ?_  -- l4
   refine S_on rfl rfl ?_
   refine S_call rfl en68 (spec_l1In_c _ _ _ _) ?_  -- k3 spec.l1In
   rintro v w' ⟨rfl, rfl⟩
   refine S_val (Y_pickT rfl rfl) ?_
   refine S_val (Y_move rfl) ?_
   refine S_g 21 rfl (fun hb3 => ?_) (fun hb3 => ?_)  -- g2
   · -- g2T
    first | with_reducible (replace hb3 := nb_nt hb3) | with_reducible (replace hb3 := nb_tt hb3) | with_reducible (replace hb3 := nb_bt hb3) | skip
    refine S_on rfl rfl ?_
    refine S_val (Y_field Try.underlying112 rfl fz112_3 (by decide) rfl) ?_
    refine S_on rfl rfl ?_
    refine S_val (Y_load Try.underlying3 rfl rfl (B1.at (by rfl))) ?_  -- l5
    refine S_on rfl rfl ?_
    refine S_call rfl en68 (spec_l1In_c _ _ _ _) ?_  -- k4 spec.l1In
    rintro v w' ⟨rfl, rfl⟩
    refine S_val (Y_pickT rfl rfl) ?_
    refine S_val (Y_assign rfl) ?_
    refine S_nl rfl rfl ?_
    refine th_n (hK7 _ _ ?_)
    clear hK7 K7
    refine wp_ret ?_
    refine ib_r ?_
    refine th_r ?_
    clear hK4 K4
    refine ret_r1 rfl rfl ?_  -- r1
    exact ⟨by first | exact cvB_f (by unfold cvP; dsimp only; omega) | exact cvB_d (by unfold cvP; dsimp only; omega) | exact cvB_t (by unfold cvP; dsimp only; omega), G⟩
   · -- g2F
    first | with_reducible (replace hb3 := nb_nf hb3) | with_reducible (replace hb3 := nb_tf hb3) | with_reducible (replace hb3 := nb_bf hb3) | skip
    refine S_off rfl rfl ?_
    refine S_off rfl rfl ?_
    refine S_off rfl rfl ?_
    refine S_val (Y_pickF rfl rfl) ?_
    refine S_val (Y_assign rfl) ?_
    refine S_nl rfl rfl ?_
    refine th_n (hK7 _ _ ?_)
    clear hK7 K7
    refine wp_ret ?_
    refine ib_r ?_
    refine th_r ?_
    clear hK4 K4
    refine ret_r1 rfl rfl ?_  -- r2
    exact ⟨by first | exact cvB_f (by unfold cvP; dsimp only; omega) | exact cvB_d (by unfold cvP; dsimp only; omega) | exact cvB_t (by unfold cvP; dsimp only; omega), G⟩
  · -- g1F
   first | with_reducible (replace hb2 := nb_nf hb2) | with_reducible (replace hb2 := nb_tf hb2) | with_reducible (replace hb2 := nb_bf hb2) | skip
   refine S_off rfl rfl ?_
   refine S_off rfl rfl ?_
   refine S_off rfl rfl ?_
   refine S_val (Y_pickF rfl rfl) ?_
   refine S_val (Y_move rfl) ?_
   refine S_off rfl rfl ?_
   refine S_off rfl rfl ?_
   refine S_off rfl rfl ?_
   refine S_val (Y_pickF rfl rfl) ?_
   refine S_val (Y_assign rfl) ?_
   refine S_nl rfl rfl ?_
   refine th_n (hK7 _ _ ?_)
   clear hK7 K7
   refine wp_ret ?_
   refine ib_r ?_
   refine th_r ?_
   clear hK4 K4
   refine ret_r1 rfl rfl ?_  -- r3
   exact ⟨by first | exact cvB_f (by unfold cvP; dsimp only; omega) | exact cvB_d (by unfold cvP; dsimp only; omega) | exact cvB_t (by unfold cvP; dsimp only; omega), G⟩
 · -- c1F
  replace hb1 := nb_tf hb1
  refine wp_seq_k fun K8 hK8 => ?_
  refine wp_seq_k fun K9 hK9 => ?_
  refine Sb 75 rfl ?_  -- 6
  refine S_val (Y_eql rfl rfl) ?_
  refine S_val (Y_assign rfl) ?_
  refine S_nl rfl rfl ?_
  refine th_n (hK9 _ _ ?_)
  clear hK9 K9
  refine S_if rfl (fun hb2 => ?_) (fun hb2 => ?_)  -- c2
  · -- c2T
   replace hb2 := nb_tt hb2
   refine wp_skip ?_
   refine th_n (hK8 _ _ ?_)
   clear hK8 K8
   refine S_if rfl (fun hb3 => ?_) (fun hb3 => ?_)  -- c3
   · -- c3T
    replace hb3 := nb_tt hb3
    refine wp_seq_k fun K10 hK10 => ?_
    refine Sb 75 rfl ?_  -- 8
    refine S_val (Y_move rfl) ?_
    refine S_val (Y_move rfl) ?_
    refine S_g 30 rfl (fun hb4 => ?_) (fun hb4 => ?_)  -- g3
    · -- g3T
     first | with_reducible (replace hb4 := nb_nt hb4) | with_reducible (replace hb4 := nb_tt hb4) | with_reducible (replace hb4 := nb_bt hb4) | skip
     refine S_on rfl rfl ?_
     refine S_val (Y_move rfl) ?_
     refine S_val (Y_pickT rfl rfl) ?_
     refine S_val (Y_move rfl) ?_
     refine S_g 33 rfl (fun hb5 => ?_) (fun hb5 => ?_)  -- g4
     · -- g4T
      first | with_reducible (replace hb5 := nb_nt hb5) | with_reducible (replace hb5 := nb_tt hb5) | with_reducible (replace hb5 := nb_bt hb5) | skip
      refine S_on rfl rfl ?_
      refine S_val (Y_field Try.underlying112 rfl fz112_3 (by decide) rfl) ?_
      refine S_on rfl rfl ?_
      refine S_val (Y_load Try.underlying3 rfl rfl (B1.at (by rfl))) ?_  -- l6
      refine S_on rfl rfl ?_
      refine S_call rfl en68 (spec_l1In_c _ _ _ _) ?_  -- k5 spec.l1In
      rintro v w' ⟨rfl, rfl⟩
      refine S_val (Y_pickT rfl rfl) ?_
      refine S_val (Y_assign rfl) ?_
      refine S_nl rfl rfl ?_
      refine th_n (hK10 _ _ ?_)
      clear hK10 K10
      refine wp_ret ?_
      refine ib_r ?_
      refine th_r ?_
      clear hK4 K4
      refine ret_r1 rfl rfl ?_  -- r4
      exact ⟨by first | exact cvB_f (by unfold cvP; dsimp only; omega) | exact cvB_d (by unfold cvP; dsimp only; omega) | exact cvB_t (by unfold cvP; dsimp only; omega), G⟩
     · -- g4F
      first | with_reducible (replace hb5 := nb_nf hb5) | with_reducible (replace hb5 := nb_tf hb5) | with_reducible (replace hb5 := nb_bf hb5) | skip
      refine S_off rfl rfl ?_
      refine S_off rfl rfl ?_
      refine S_off rfl rfl ?_
      refine S_val (Y_pickF rfl rfl) ?_
      refine S_val (Y_assign rfl) ?_
      refine S_nl rfl rfl ?_
      refine th_n (hK10 _ _ ?_)
      clear hK10 K10
      refine wp_ret ?_
      refine ib_r ?_
      refine th_r ?_
      clear hK4 K4
      refine ret_r1 rfl rfl ?_  -- r5
      exact ⟨by first | exact cvB_f (by unfold cvP; dsimp only; omega) | exact cvB_d (by unfold cvP; dsimp only; omega) | exact cvB_t (by unfold cvP; dsimp only; omega), G⟩
    · -- g3F
     first | with_reducible (replace hb4 := nb_nf hb4) | with_reducible (replace hb4 := nb_tf hb4) | with_reducible (replace hb4 := nb_bf hb4) | skip
     refine S_off rfl rfl ?_
     refine S_val (Y_pickF rfl rfl) ?_
     refine S_val (Y_move rfl) ?_
     refine S_off rfl rfl ?_
     refine S_off rfl rfl ?_
     refine S_off rfl rfl ?_
     refine S_val (Y_pickF rfl rfl) ?_
     refine S_val (Y_assign rfl) ?_
     refine S_nl rfl rfl ?_
     refine th_n (hK10 _ _ ?_)
     clear hK10 K10
     refine wp_ret ?_
     refine ib_r ?_
     refine th_r ?_
     clear hK4 K4
     refine ret_r1 rfl rfl ?_  -- r6
     exact ⟨by first | exact cvB_f (by unfold cvP; dsimp only; omega) | exact cvB_d (by unfold cvP; dsimp only; omega) | exact cvB_t (by unfold cvP; dsimp only; omega), G⟩
   · -- c3F
    replace hb3 := nb_tf hb3
    refine wp_seq_k fun K11 hK11 => ?_
    refine Sb 75 rfl ?_  -- 9
    refine S_val (Y_eql rfl rfl) ?_
    refine S_val (Y_assign rfl) ?_
    refine S_nl rfl rfl ?_
    refine th_n (hK11 _ _ ?_)
    clear hK11 K11
    refine S_if rfl (fun hb4 => ?_) (fun hb4 => ?_)  -- c4
    · -- c4T
     replace hb4 := nb_tt hb4
     refine wp_seq_k fun K12 hK12 => ?_
     refine Sb 75 rfl ?_  -- 10
     refine S_val (Y_move rfl) ?_
     refine S_val (Y_move rfl) ?_
     refine S_g 41 rfl (fun hb5 => ?_) (fun hb5 => ?_)  -- g5
     · -- g5T
      first | with_reducible (replace hb5 := nb_nt hb5) | with_reducible (replace hb5 := nb_tt hb5) | with_reducible (replace hb5 := nb_bt hb5) | skip
      refine S_on rfl rfl ?_
      refine S_val (Y_move rfl) ?_
      refine S_val (Y_pickT rfl rfl) ?_
      refine S_val (Y_move rfl) ?_
      refine S_g 44 rfl (fun hb6 => ?_) (fun hb6 => ?_)  -- g6
      · -- g6T
       first | with_reducible (replace hb6 := nb_nt hb6) | with_reducible (replace hb6 := nb_tt hb6) | with_reducible (replace hb6 := nb_bt hb6) | skip
       refine S_on rfl rfl ?_
       refine S_val (Y_field Try.underlying112 rfl fz112_3 (by decide) rfl) ?_
       refine S_on rfl rfl ?_
       refine S_val (Y_load Try.underlying3 rfl rfl (B1.at (by rfl))) ?_  -- l7
       refine S_on rfl rfl ?_
       refine S_val (Y_eql rfl rfl) ?_
       refine S_val (Y_pickT rfl rfl) ?_
       refine S_val (Y_assign rfl) ?_
       refine S_nl rfl rfl ?_
       refine th_n (hK12 _ _ ?_)
       clear hK12 K12
       refine wp_ret ?_
       refine ib_r ?_
       refine th_r ?_
       clear hK4 K4
       refine ret_r1 rfl rfl ?_  -- r7
       exact ⟨by first | exact cvB_f (by unfold cvP; dsimp only; omega) | exact cvB_d (by unfold cvP; dsimp only; omega) | exact cvB_t (by unfold cvP; dsimp only; omega), G⟩
      · -- g6F
       first | with_reducible (replace hb6 := nb_nf hb6) | with_reducible (replace hb6 := nb_tf hb6) | with_reducible (replace hb6 := nb_bf hb6) | skip
       refine S_off rfl rfl ?_
       refine S_off rfl rfl ?_
       refine S_off rfl rfl ?_
       refine S_val (Y_pickF rfl rfl) ?_
       refine S_val (Y_assign rfl) ?_
       refine S_nl rfl rfl ?_
       refine th_n (hK12 _ _ ?_)
       clear hK12 K12
       refine wp_ret ?_
       refine ib_r ?_
       refine th_r ?_
       clear hK4 K4
       refine ret_r1 rfl rfl ?_  -- r8
       exact ⟨by first | exact cvB_f (by unfold cvP; dsimp only; omega) | exact cvB_d (by unfold cvP; dsimp only; omega) | exact cvB_t (by unfold cvP; dsimp only; omega), G⟩
     · -- g5F
      first | with_reducible (replace hb5 := nb_nf hb5) | with_reducible (replace hb5 := nb_tf hb5) | with_reducible (replace hb5 := nb_bf hb5) | skip
      refine S_off rfl rfl ?_
      refine S_val (Y_pickF rfl rfl) ?_
      refine S_val (Y_move rfl) ?_
      refine S_off rfl rfl ?_
      refine S_off rfl rfl ?_
      refine S_off rfl rfl ?_
      refine S_val (Y_pickF rfl rfl) ?_
      refine S_val (Y_assign rfl) ?_
      refine S_nl rfl rfl ?_
      refine th_n (hK12 _ _ ?_)
      clear hK12 K12
      refine wp_ret ?_
      refine ib_r ?_
      refine th_r ?_
      clear hK4 K4
      refine ret_r1 rfl rfl ?_  -- r9
      exact ⟨by first | exact cvB_f (by unfold cvP; dsimp only; omega) | exact cvB_d (by unfold cvP; dsimp only; omega) | exact cvB_t (by unfold cvP; dsimp only; omega), G⟩
    · -- c4F
     replace hb4 := nb_tf hb4
     refine wp_seq_k fun K13 hK13 => ?_
     refine Sb 75 rfl ?_  -- 11
     refine S_val (Y_eql rfl rfl) ?_
     refine S_val (Y_assign rfl) ?_
     refine S_nl rfl rfl ?_
     refine th_n (hK13 _ _ ?_)
     clear hK13 K13
     refine S_if rfl (fun hb5 => ?_) (fun hb5 => ?_)  -- c5
     · -- c5T
      replace hb5 := nb_tt hb5
      refine wp_seq_k fun K14 hK14 => ?_
      refine Sb 75 rfl ?_  -- 12
      refine S_val (Y_move rfl) ?_
      refine S_val (Y_move rfl) ?_
      refine S_g 52 rfl (fun hb6 => ?_) (fun hb6 => ?_)  -- g7
      · -- g7T
       first | with_reducible (replace hb6 := nb_nt hb6) | with_reducible (replace hb6 := nb_tt hb6) | with_reducible (replace hb6 := nb_bt hb6) | skip
       refine S_on rfl rfl ?_
       refine S_val (Y_field Try.underlying112 rfl fz112_2 (by decide) rfl) ?_
       refine S_on rfl rfl ?_
       refine S_val (Y_load Try.underlying3 rfl rfl (B1.at (by rfl))) ?_  -- l8
       refine S_on rfl rfl ?_
       refine S_val (Y_eql rfl rfl) ?_
       refine S_val (Y_pickT rfl rfl) ?_
       refine S_val (Y_move rfl) ?_
       refine S_g 57 rfl (fun hb7 => ?_) (fun hb7 => ?_)  -- g8
       · -- g8T
        first | with_reducible (replace hb7 := nb_nt hb7) | with_reducible (replace hb7 := nb_tt hb7) | with_reducible (replace hb7 := nb_bt hb7) | skip
        refine S_on rfl rfl ?_
        refine S_val (Y_field Try.underlying112 rfl fz112_3 (by decide) rfl) ?_
        refine S_on rfl rfl ?_
        refine S_val (Y_load Try.underlying3 rfl rfl (B1.at (by rfl))) ?_  -- l9
        refine S_on rfl rfl ?_
        refine S_val (Y_eql rfl rfl) ?_
        refine S_val (Y_pickT rfl rfl) ?_
        refine S_val (Y_assign rfl) ?_
        refine S_nl rfl rfl ?_
        refine th_n (hK14 _ _ ?_)
        clear hK14 K14
        refine wp_ret ?_
        refine ib_r ?_
        refine th_r ?_
        clear hK4 K4
        refine ret_r1 rfl rfl ?_  -- r10
        exact ⟨by first | exact cvB_f (by unfold cvP; dsimp only; omega) | exact cvB_d (by unfold cvP; dsimp only; omega) | exact cvB_t (by unfold cvP; dsimp only; omega), G⟩
       · -- g8F
        first | with_reducible (replace hb7 := nb_nf hb7) | with_reducible (replace hb7 := nb_tf hb7) | with_reducible (replace hb7 := nb_bf hb7) | skip
        refine S_off rfl rfl ?_
        refine S_off rfl rfl ?_
        refine S_off rfl rfl ?_
        refine S_val (Y_pickF rfl rfl) ?_
        refine S_val (Y_assign rfl) ?_
        refine S_nl rfl rfl ?_
        refine th_n (hK14 _ _ ?_)
        clear hK14 K14
        refine wp_ret ?_
        refine ib_r ?_
        refine th_r ?_
        clear hK4 K4
        refine ret_r1 rfl rfl ?_  -- r11
        exact ⟨by first | exact cvB_f (by unfold cvP; dsimp only; omega) | exact cvB_d (by unfold cvP; dsimp only; omega) | exact cvB_t (by unfold cvP; dsimp only; omega), G⟩
      · -- g7F
       first | with_reducible (replace hb6 := nb_nf hb6) | with_reducible (replace hb6 := nb_tf hb6) | with_reducible (replace hb6 := nb_bf hb6) | skip
       refine S_off rfl rfl ?_
       refine S_off rfl rfl ?_
       refine S_off rfl rfl ?_
       refine S_val (Y_pickF rfl rfl) ?_
       refine S_val (Y_move rfl) ?_
       refine S_off rfl rfl ?_
       refine S_off rfl rfl ?_
       refine S_off rfl rfl ?_
       refine S_val (Y_pickF rfl rfl) ?_
       refine S_val (Y_assign rfl) ?_
       refine S_nl rfl rfl ?_
       refine th_n (hK14 _ _ ?_)
       clear hK14 K14
       refine wp_ret ?_
       refine ib_r ?_
       refine th_r ?_
       clear hK4 K4
       refine ret_r1 rfl rfl ?_  -- r12
       exact ⟨by first | exact cvB_f (by unfold cvP; dsimp only; omega) | exact cvB_d (by unfold cvP; dsimp only; omega) | exact cvB_t (by unfold cvP; dsimp only; omega), G⟩
     · -- c5F
      replace hb5 := nb_tf hb5
      refine wp_seq_k fun K15 hK15 => ?_
      refine Sb 75 rfl ?_  -- 13
      refine S_val (Y_eql rfl rfl) ?_
      refine S_val (Y_assign rfl) ?_
      refine S_nl rfl rfl ?_
      refine th_n (hK15 _ _ ?_)
      clear hK15 K15
      refine S_if rfl (fun hb6 => ?_) (fun hb6 => ?_)  -- c6
      · -- c6T
       replace hb6 := nb_tt hb6
       refine wp_seq_k fun K16 hK16 => ?_
       refine Sb 75 rfl ?_  -- 14
       refine S_val (Y_move rfl) ?_
       refine S_val (Y_move rfl) ?_
       refine S_g 65 rfl (fun hb7 => ?_) (fun hb7 => ?_)  -- g9
       · -- g9T
        first | with_reducible (replace hb7 := nb_nt hb7) | with_reducible (replace hb7 := nb_tt hb7) | with_reducible (replace hb7 := nb_bt hb7) | skip
        refine S_on rfl rfl ?_
        refine S_val (Y_field Try.underlying112 rfl fz112_2 (by decide) rfl) ?_
        refine S_on rfl rfl ?_
        refine S_val (Y_load Try.underlying3 rfl rfl (B1.at (by rfl))) ?_  -- l10
        refine S_on rfl rfl ?_
        refine S_call rfl en68 (spec_l1In_c _ _ _ _) ?_  -- k6 spec.l1In
        rintro v w' ⟨rfl, rfl⟩
        refine S_val (Y_pickT rfl rfl) ?_
        refine S_val (Y_move rfl) ?_
        refine S_g 70 rfl (fun hb8 => ?_) (fun hb8 => ?_)  -- g10
        · -- g10T
         first | with_reducible (replace hb8 := nb_nt hb8) | with_reducible (replace hb8 := nb_tt hb8) | with_reducible (replace hb8 := nb_bt hb8) | skip
         refine S_on rfl rfl ?_
         refine S_val (Y_field Try.underlying112 rfl fz112_3 (by decide) rfl) ?_
         refine S_on rfl rfl ?_
         refine S_val (Y_load Try.underlying3 rfl rfl (B1.at (by rfl))) ?_  -- l11
         refine S_on rfl rfl ?_
         refine S_val (Y_eql rfl rfl) ?_
         refine S_val (Y_pickT rfl rfl) ?_
         refine S_val (Y_assign rfl) ?_
         refine S_nl rfl rfl ?_
         refine th_n (hK16 _ _ ?_)
         clear hK16 K16
         refine wp_ret ?_
         refine ib_r ?_
         refine th_r ?_
         clear hK4 K4
         refine ret_r1 rfl rfl ?_  -- r13
         exact ⟨by first | exact cvB_f (by unfold cvP; dsimp only; omega) | exact cvB_d (by unfold cvP; dsimp only; omega) | exact cvB_t (by unfold cvP; dsimp only; omega), G⟩
        · -- g10F
         first | with_reducible (replace hb8 := nb_nf hb8) | with_reducible (replace hb8 := nb_tf hb8) | with_reducible (replace hb8 := nb_bf hb8) | skip
         refine S_off rfl rfl ?_
         refine S_off rfl rfl ?_
         refine S_off rfl rfl ?_
         refine S_val (Y_pickF rfl rfl) ?_
         refine S_val (Y_assign rfl) ?_
         refine S_nl rfl rfl ?_
         refine th_n (hK16 _ _ ?_)
         clear hK16 K16
         refine wp_ret ?_
         refine ib_r ?_
         refine th_r ?_
         clear hK4 K4
         refine ret_r1 rfl rfl ?_  -- r14
         exact ⟨by first | exact cvB_f (by unfold cvP; dsimp only; omega) | exact cvB_d (by unfold cvP; dsimp only; omega) | exact cvB_t (by unfold cvP; dsimp only; omega), G⟩
       · -- g9F
        first | with_reducible (replace hb7 := nb_nf hb7) | with_reducible (replace hb7 := nb_tf hb7) | with_reducible (replace hb7 := nb_bf hb7) | skip
        refine S_off rfl rfl ?_
        refine S_off rfl rfl ?_
        refine S_off rfl rfl ?_
        refine S_val (Y_pickF rfl rfl) ?_
        refine S_val (Y_move rfl) ?_
        refine S_off rfl rfl ?_
        refine S_off rfl rfl ?_
        refine S_off rfl rfl ?_
        refine S_val (Y_pickF rfl rfl) ?_
        refine S_val (Y_assign rfl) ?_
        refine S_nl rfl rfl ?_
        refine th_n (hK16 _ _ ?_)
        clear hK16 K16
        refine wp_ret ?_
        refine ib_r ?_
        refine th_r ?_
        clear hK4 K4
        refine ret_r1 rfl rfl ?_  -- r15
        exact ⟨by first | exact cvB_f (by unfold cvP; dsimp only; omega) | exact cvB_d (by unfold cvP; dsimp only; omega) | exact cvB_t (by unfold cvP; dsimp only; omega), G⟩
      · -- c6F
       replace hb6 := nb_tf hb6
       refine wp_skip ?_
       refine ib_n ?_
       refine th_n (hK4 _ _ ?_)
       clear hK4 K4
       refine wp_seq_k fun K17 hK17 => ?_
       refine Sb 75 rfl ?_  -- 15
       refine S_val (Y_assign rfl) ?_
       refine S_nl rfl rfl ?_
       refine th_n (hK17 _ _ ?_)
       clear hK17 K17
       refine wp_ret ?_
       refine ret_r1 rfl rfl ?_  -- r16
       exact ⟨by first | exact cvB_f (by unfold cvP; dsimp only; omega) | exact cvB_d (by unfold cvP; dsimp only; omega) | exact cvB_t (by unfold cvP; dsimp only; omega), G⟩
  · -- c2F
   replace hb2 := nb_tf hb2
   refine Sb 75 rfl ?_  -- 7
   refine S_val (Y_eql rfl rfl) ?_
   refine S_val (Y_assign rfl) ?_
   refine S_nl rfl rfl ?_
   refine th_n (hK8 _ _ ?_)
   clear hK8 K8
   refine S_if rfl (fun hb3 => ?_) (fun hb3 => ?_)  -- c7
   · -- c7T
    replace hb3 := nb_tt hb3
    refine wp_seq_k fun K18 hK18 => ?_
    refine Sb 75 rfl ?_  -- 8
    refine S_val (Y_move rfl) ?_
    refine S_val (Y_move rfl) ?_
    refine S_g 30 rfl (fun hb4 => ?_) (fun hb4 => ?_)  -- g11
    · -- g11T
     first | with_reducible (replace hb4 := nb_nt hb4) | with_reducible (replace hb4 := nb_tt hb4) | with_reducible (replace hb4 := nb_bt hb4) | skip
     refine S_on rfl rfl ?_
     refine S_val (Y_move rfl) ?_
     refine S_val (Y_pickT rfl rfl) ?_
     refine S_val (Y_move rfl) ?_
     refine S_g 33 rfl (fun hb5 => ?_) (fun hb5 => ?_)  -- g12
     · -- g12T
      first | with_reducible (replace hb5 := nb_nt hb5) | with_reducible (replace hb5 := nb_tt hb5) | with_reducible (replace hb5 := nb_bt hb5) | skip
      refine S_on rfl rfl ?_
      refine S_val (Y_field Try.underlying112 rfl fz112_3 (by decide) rfl) ?_
      refine S_on rfl rfl ?_
      refine S_val (Y_load Try.underlying3 rfl rfl (B1.at (by rfl))) ?_  -- l12
      refine S_on rfl rfl ?_
      refine S_call rfl en68 (spec_l1In_c _ _ _ _) ?_  -- k7 spec.l1In
      rintro v w' ⟨rfl, rfl⟩
      refine S_val (Y_pickT rfl rfl) ?_
      refine S_val (Y_assign rfl) ?_
      refine S_nl rfl rfl ?_
      refine th_n (hK18 _ _ ?_)
      clear hK18 K18
      refine wp_ret ?_
      refine ib_r ?_
      refine th_r ?_
      clear hK4 K4
      refine ret_r1 rfl rfl ?_  -- r17
      exact ⟨by first | exact cvB_f (by unfold cvP; dsimp only; omega) | exact cvB_d (by unfold cvP; dsimp only; omega) | exact cvB_t (by unfold cvP; dsimp only; omega), G⟩
     · -- g12F
      first | with_reducible (replace hb5 := nb_nf hb5) | with_reducible (replace hb5 := nb_tf hb5) | with_reducible (replace hb5 := nb_bf hb5) | skip
      refine S_off rfl rfl ?_
      refine S_off rfl rfl ?_
      refine S_off rfl rfl ?_
      refine S_val (Y_pickF rfl rfl) ?_
      refine S_val (Y_assign rfl) ?_
      refine S_nl rfl rfl ?_
      refine th_n (hK18 _ _ ?_)
      clear hK18 K18
      refine wp_ret ?_
      refine ib_r ?_
      refine th_r ?_
      clear hK4 K4
      refine ret_r1 rfl rfl ?_  -- r18
      exact ⟨by first | exact cvB_f (by unfold cvP; dsimp only; omega) | exact cvB_d (by unfold cvP; dsimp only; omega) | exact cvB_t (by unfold cvP; dsimp only; omega), G⟩
    · -- g11F
     first | with_reducible (replace hb4 := nb_nf hb4) | with_reducible (replace hb4 := nb_tf hb4) | with_reducible (replace hb4 := nb_bf hb4) | skip
     refine S_off rfl rfl ?_
     refine S_val (Y_pickF rfl rfl) ?_
     refine S_val (Y_move rfl) ?_
     refine S_off rfl rfl ?_
     refine S_off rfl rfl ?_
     refine S_off rfl rfl ?_
     refine S_val (Y_pickF rfl rfl) ?_
     refine S_val (Y_assign rfl) ?_
     refine S_nl rfl rfl ?_
     refine th_n (hK18 _ _ ?_)
     clear hK18 K18
     refine wp_ret ?_
     refine ib_r ?_
     refine th_r ?_
     clear hK4 K4
     refine ret_r1 rfl rfl ?_  -- r19
     exact ⟨by first | exact cvB_f (by unfold cvP; dsimp only; omega) | exact cvB_d (by unfold cvP; dsimp only; omega) | exact cvB_t (by unfold cvP; dsimp only; omega), G⟩
   · -- c7F
    replace hb3 := nb_tf hb3
    refine wp_seq_k fun K19 hK19 => ?_
    refine Sb 75 rfl ?_  -- 9
    refine S_val (Y_eql rfl rfl) ?_
    refine S_val (Y_assign rfl) ?_
    refine S_nl rfl rfl ?_
    refine th_n (hK19 _ _ ?_)
    clear hK19 K19
    refine S_if rfl (fun hb4 => ?_) (fun hb4 => ?_)  -- c8
    · -- c8T
     replace hb4 := nb_tt hb4
     refine wp_seq_k fun K20 hK20 => ?_
     refine Sb 75 rfl ?_  -- 10
     refine S_val (Y_move rfl) ?_
     refine S_val (Y_move rfl) ?_
     refine S_g 41 rfl (fun hb5 => ?_) (fun hb5 => ?_)  -- g13
     · -- g13T
      first | with_reducible (replace hb5 := nb_nt hb5) | with_reducible (replace hb5 := nb_tt hb5) | with_reducible (replace hb5 := nb_bt hb5) | skip
      refine S_on rfl rfl ?_
      refine S_val (Y_move rfl) ?_
      refine S_val (Y_pickT rfl rfl) ?_
      refine S_val (Y_move rfl) ?_
      refine S_g 44 rfl (fun hb6 => ?_) (fun hb6 => ?_)  -- g14
      · -- g14T
       first | with_reducible (replace hb6 := nb_nt hb6) | with_reducible (replace hb6 := nb_tt hb6) | with_reducible (replace hb6 := nb_bt hb6) | skip
       refine S_on rfl rfl ?_
       refine S_val (Y_field Try.underlying112 rfl fz112_3 (by decide) rfl) ?_
       refine S_on rfl rfl ?_
       refine S_val (Y_load Try.underlying3 rfl rfl (B1.at (by rfl))) ?_  -- l13
       refine S_on rfl rfl ?_
       refine S_val (Y_eql rfl rfl) ?_
       refine S_val (Y_pickT rfl rfl) ?_
       refine S_val (Y_assign rfl) ?_
       refine S_nl rfl rfl ?_
       refine th_n (hK20 _ _ ?_)
       clear hK20 K20
       refine wp_ret ?_
       refine ib_r ?_
       refine th_r ?_
       clear hK4 K4
       refine ret_r1 rfl rfl ?_  -- r20
       exact ⟨by first | exact cvB_f (by unfold cvP; dsimp only; omega) | exact cvB_d (by unfold cvP; dsimp only; omega) | exact cvB_t (by unfold cvP; dsimp only; omega), G⟩
      · -- g14F
       first | with_reducible (replace hb6 := nb_nf hb6) | with_reducible (replace hb6 := nb_tf hb6) | with_reducible (replace hb6 := nb_bf hb6) | skip
       refine S_off rfl rfl ?_
       refine S_off rfl rfl ?_
       refine S_off rfl rfl ?_
       refine S_val (Y_pickF rfl rfl) ?_
       refine S_val (Y_assign rfl) ?_
       refine S_nl rfl rfl ?_
       refine th_n (hK20 _ _ ?_)
       clear hK20 K20
       refine wp_ret ?_
       refine ib_r ?_
       refine th_r ?_
       clear hK4 K4
       refine ret_r1 rfl rfl ?_  -- r21
       exact ⟨by first | exact cvB_f (by unfold cvP; dsimp only; omega) | exact cvB_d (by unfold cvP; dsimp only; omega) | exact cvB_t (by unfold cvP; dsimp only; omega), G⟩
     · -- g13F
      first | with_reducible (replace hb5 := nb_nf hb5) | with_reducible (replace hb5 := nb_tf hb5) | with_reducible (replace hb5 := nb_bf hb5) | skip
      refine S_off rfl rfl ?_
      refine S_val (Y_pickF rfl rfl) ?_
      refine S_val (Y_move rfl) ?_
      refine S_off rfl rfl ?_
      refine S_off rfl rfl ?_
      refine S_off rfl rfl ?_
      refine S_val (Y_pickF rfl rfl) ?_
      refine S_val (Y_assign rfl) ?_
      refine S_nl rfl rfl ?_
      refine th_n (hK20 _ _ ?_)
      clear hK20 K20
      refine wp_ret ?_
      refine ib_r ?_
      refine th_r ?_
      clear hK4 K4
      refine ret_r1 rfl rfl ?_  -- r22
      exact ⟨by first | exact cvB_f (by unfold cvP; dsimp only; omega) | exact cvB_d (by unfold cvP; dsimp only; omega) | exact cvB_t (by unfold cvP; dsimp only; omega), G⟩
    · -- c8F
     replace hb4 := nb_tf hb4
     refine wp_seq_k fun K21 hK21 => ?_
     refine Sb 75 rfl ?_  -- 11
     refine S_val (Y_eql rfl rfl) ?_
     refine S_val (Y_assign rfl) ?_
     refine S_nl rfl rfl ?_
     refine th_n (hK21 _ _ ?_)
     clear hK21 K21
     refine S_if rfl (fun hb5 => ?_) (fun hb5 => ?_)  -- c9
     · -- c9T
      replace hb5 := nb_tt hb5
      refine wp_seq_k fun K22 hK22 => ?_
      refine Sb 75 rfl ?_  -- 12
      refine S_val (Y_move rfl) ?_
      refine S_val (Y_move rfl) ?_
      refine S_g 52 rfl (fun hb6 => ?_) (fun hb6 => ?_)  -- g15
      · -- g15T
       first | with_reducible (replace hb6 := nb_nt hb6) | with_reducible (replace hb6 := nb_tt hb6) | with_reducible (replace hb6 := nb_bt hb6) | skip
       refine S_on rfl rfl ?_
       refine S_val (Y_field Try.underlying112 rfl fz112_2 (by decide) rfl) ?_
       refine S_on rfl rfl ?_
       refine S_val (Y_load Try.underlying3 rfl rfl (B1.at (by rfl))) ?_  -- l14
       refine S_on rfl rfl ?_
       refine S_val (Y_eql rfl rfl) ?_
       refine S_val (Y_pickT rfl rfl) ?_
       refine S_val (Y_move rfl) ?_
       refine S_g 57 rfl (fun hb7 => ?_) (fun hb7 => ?_)  -- g16
       · -- g16T
        first | with_reducible (replace hb7 := nb_nt hb7) | with_reducible (replace hb7 := nb_tt hb7) | with_reducible (replace hb7 := nb_bt hb7) | skip
        refine S_on rfl rfl ?_
        refine S_val (Y_field Try.underlying112 rfl fz112_3 (by decide) rfl) ?_
        refine S_on rfl rfl ?_
        refine S_val (Y_load Try.underlying3 rfl rfl (B1.at (by rfl))) ?_  -- l15
        refine S_on rfl rfl ?_
        refine S_val (Y_eql rfl rfl) ?_
        refine S_val (Y_pickT rfl rfl) ?_
        refine S_val (Y_assign rfl) ?_
        refine S_nl rfl rfl ?_
        refine th_n (hK22 _ _ ?_)
        clear hK22 K22
        refine wp_ret ?_
        refine ib_r ?_
        refine th_r ?_
        clear hK4 K4
        refine ret_r1 rfl rfl ?_  -- r23
        exact ⟨by first | exact cvB_f (by unfold cvP; dsimp only; omega) | exact cvB_d (by unfold cvP; dsimp only; omega) | exact cvB_t (by unfold cvP; dsimp only; omega), G⟩
       · -- g16F
        first | with_reducible (replace hb7 := nb_nf hb7) | with_reducible (replace hb7 := nb_tf hb7) | with_reducible (replace hb7 := nb_bf hb7) | skip
        refine S_off rfl rfl ?_
        refine S_off rfl rfl ?_
        refine S_off rfl rfl ?_
        refine S_val (Y_pickF rfl rfl) ?_
        refine S_val (Y_assign rfl) ?_
        refine S_nl rfl rfl ?_
        refine th_n (hK22 _ _ ?_)
        clear hK22 K22
        refine wp_ret ?_
        refine ib_r ?_
        refine th_r ?_
        clear hK4 K4
        refine ret_r1 rfl rfl ?_  -- r24
        exact ⟨by first | exact cvB_f (by unfold cvP; dsimp only; omega) | exact cvB_d (by unfold cvP; dsimp only; omega) | exact cvB_t (by unfold cvP; dsimp only; omega), G⟩
      · -- g15F
       first | with_reducible (replace hb6 := nb_nf hb6) | with_reducible (replace hb6 := nb_tf hb6) | with_reducible (replace hb6 := nb_bf hb6) | skip
       refine S_off rfl rfl ?_
       refine S_off rfl rfl ?_
       refine S_off rfl rfl ?_
       refine S_val (Y_pickF rfl rfl) ?_
       refine S_val (Y_move rfl) ?_
       refine S_off rfl rfl ?_
       refine S_off rfl rfl ?_
       refine S_off rfl rfl ?_
       refine S_val (Y_pickF rfl rfl) ?_
       refine S_val (Y_assign rfl) ?_
       refine S_nl rfl rfl ?_
       refine th_n (hK22 _ _ ?_)
       clear hK22 K22
       refine wp_ret ?_
       refine ib_r ?_
       refine th_r ?_
       clear hK4 K4
       refine ret_r1 rfl rfl ?_  -- r25
       exact ⟨by first | exact cvB_f (by unfold cvP; dsimp only; omega) | exact cvB_d (by unfold cvP; dsimp only; omega) | exact cvB_t (by unfold cvP; dsimp only; omega), G⟩
     · -- c9F
      replace hb5 := nb_tf hb5
      refine wp_seq_k fun K23 hK23 => ?_
      refine Sb 75 rfl ?_  -- 13
      refine S_val (Y_eql rfl rfl) ?_
      refine S_val (Y_assign rfl) ?_
      refine S_nl rfl rfl ?_
      refine th_n (hK23 _ _ ?_)
      clear hK23 K23
      refine S_if rfl (fun hb6 => ?_) (fun hb6 => ?_)  -- c10
      · -- c10T
       replace hb6 := nb_tt hb6
       refine wp_seq_k fun K24 hK24 => ?_
       refine Sb 75 rfl ?_  -- 14
       refine S_val (Y_move rfl) ?_
       refine S_val (Y_move rfl) ?_
       refine S_g 65 rfl (fun hb7 => ?_) (fun hb7 => ?_)  -- g17
       · -- g17T
        first | with_reducible (replace hb7 := nb_nt hb7) | with_reducible (replace hb7 := nb_tt hb7) | with_reducible (replace hb7 := nb_bt hb7) | skip
        refine S_on rfl rfl ?_
        refine S_val (Y_field Try.underlying112 rfl fz112_2 (by decide) rfl) ?_
        refine S_on rfl rfl ?_
        refine S_val (Y_load Try.underlying3 rfl rfl (B1.at (by rfl))) ?_  -- l16
        refine S_on rfl rfl ?_
        refine S_call rfl en68 (spec_l1In_c _ _ _ _) ?_  -- k8 spec.l1In
        rintro v w' ⟨rfl, rfl⟩
        refine S_val (Y_pickT rfl rfl) ?_
        refine S_val (Y_move rfl) ?_
        refine S_g 70 rfl (fun hb8 => ?_) (fun hb8 => ?_)  -- g18
        · -- g18T
         first | with_reducible (replace hb8 := nb_nt hb8) | with_reducible (replace hb8 := nb_tt hb8) | with_reducible (replace hb8 := nb_bt hb8) | skip
         refine S_on rfl rfl ?_
         refine S_val (Y_field Try.underlying112 rfl fz112_3 (by decide) rfl) ?_
         refine S_on rfl rfl ?_
         refine S_val (Y_load Try.underlying3 rfl rfl (B1.at (by rfl))) ?_  -- l17
         refine S_on rfl rfl ?_
         refine S_val (Y_eql rfl rfl) ?_
         refine S_val (Y_pickT rfl rfl) ?_
         refine S_val (Y_assign rfl) ?_
         refine S_nl rfl rfl ?_
         refine th_n (hK24 _ _ ?_)
         clear hK24 K24
         refine wp_ret ?_
         refine ib_r ?_
         refine th_r ?_
         clear hK4 K4
         refine ret_r1 rfl rfl ?_  -- r26
         exact ⟨by first | exact cvB_f (by unfold cvP; dsimp only; omega) | exact cvB_d (by unfold cvP; dsimp only; omega) | exact cvB_t (by unfold cvP; dsimp only; omega), G⟩
        · -- g18F
         first | with_reducible (replace hb8 := nb_nf hb8) | with_reducible (replace hb8 := nb_tf hb8) | with_reducible (replace hb8 := nb_bf hb8) | skip
         refine S_off rfl rfl ?_
         refine S_off rfl rfl ?_
         refine S_off rfl rfl ?_
         refine S_val (Y_pickF rfl rfl) ?_
         refine S_val (Y_assign rfl) ?_
         refine S_nl rfl rfl ?_
         refine th_n (hK24 _ _ ?_)
         clear hK24 K24
         refine wp_ret ?_
         refine ib_r ?_
         refine th_r ?_
         clear hK4 K4
         refine ret_r1 rfl rfl ?_  -- r27
         exact ⟨by first | exact cvB_f (by unfold cvP; dsimp only; omega) | exact cvB_d (by unfold cvP; dsimp only; omega) | exact cvB_t (by unfold cvP; dsimp only; omega), G⟩
       · -- g17F
        first | with_reducible (replace hb7 := nb_nf hb7) | with_reducible (replace hb7 := nb_tf hb7) | with_reducible (replace hb7 := nb_bf hb7) | skip
        refine S_off rfl rfl ?_
        refine S_off rfl rfl ?_
        refine S_off rfl rfl ?_
        refine S_val (Y_pickF rfl rfl) ?_
        refine S_val (Y_move rfl) ?_
        refine S_off rfl rfl ?_
        refine S_off rfl rfl ?_
        refine S_off rfl rfl ?_
        refine S_val (Y_pickF rfl rfl) ?_
        refine S_val (Y_assign rfl) ?_
        refine S_nl rfl rfl ?_
        refine th_n (hK24 _ _ ?_)
        clear hK24 K24
        refine wp_ret ?_
        refine ib_r ?_
        refine th_r ?_
        clear hK4 K4
        refine ret_r1 rfl rfl ?_  -- r28
        exact ⟨by first | exact cvB_f (by unfold cvP; dsimp only; omega) | exact cvB_d (by unfold cvP; dsimp only; omega) | exact cvB_t (by unfold cvP; dsimp only; omega), G⟩
      · -- c10F
       replace hb6 := nb_tf hb6
       refine wp_skip ?_
       refine ib_n ?_
       refine th_n (hK4 _ _ ?_)
       clear hK4 K4
       refine wp_seq_k fun K25 hK25 => ?_
       refine Sb 75 rfl ?_  -- 15
       refine S_val (Y_assign rfl) ?_
       refine S_nl rfl rfl ?_
       refine th_n (hK25 _ _ ?_)
       clear hK25 K25
       refine wp_ret ?_
       refine ret_r1 rfl rfl ?_  -- r29
       exact ⟨by first | exact cvB_f (by unfold cvP; dsimp only; omega) | exact cvB_d (by unfold cvP; dsimp only; omega) | exact cvB_t (by unfold cvP; dsimp only; omega), G⟩
theorem csB_bad {l : List LCmd} {k : Nat} (hk : k < l.length) (h : cvB l[k] = false) : Value.bool false = .bool (csB l) := by
  have := all_false hk h
  simp [csB, this]
theorem csB_ok {l : List LCmd} (h : l.all cvB = true) : Value.bool (decide (l.length ≤ 40)) = .bool (csB l) := by
  unfold csB
  rw [h]
  simp
set_option maxHeartbeats 400000 in
set_option maxRecDepth 20000 in
theorem spec_CommandsValid_c (Pr : Nat → Prop) (A : Option Addr) (xs : List LCmd) (c : Nat) (w : World) (hA : RO Pr w A xs) (hx : xs.length ≤ 1048576) :
    Calls Try.prog 117 #[.slice A xs.length c] w (Ret fun v w' => v = .bool (csB xs) ∧ Grow w w') := by
 refine enter Try.func117 rfl Try.ntmps117 (L := [_,_,_,_,_,_,_,_,_,_,_,_,_,_,_,_,_,_,_]) rfl ?_
 have G := Mod.refl No w
 have hA0 := hA
 refine wp_seq_k fun K1 hK1 => ?_
 refine Sb 19 rfl ?_  -- 0
 refine S_val (Y_assign rfl) ?_
 refine S_nl rfl rfl ?_
 refine th_n (hK1 _ _ ?_)
 clear hK1 K1
 refine wp_seq_k fun K2 hK2 => ?_
 refine wp_seq_k fun K3 hK3 => ?_
 refine Sb 19 rfl ?_  -- 1
 refine S_val (Y_assign rfl) ?_
 refine S_nl rfl rfl ?_
 refine th_n (hK3 _ _ ?_)
 clear hK3 K3
 refine wp_block ?_
 go_loopw [3] (fun u3 wr => (∃ k : Nat, u3 = .int .i64 k ∧ k ≤ xs.length ∧ (xs.take k).all cvB = true) ∧ Mod No w wr) (fun u3 wr => xs.length - (intOf u3).toNat)  -- L1
 case atStart =>
  refine ⟨?_, Mod.refl _ _⟩
  exact ⟨0, rfl, by omega, by simp⟩
 case round =>
  obtain ⟨w1, rfl⟩ : ∃ x : World, x = wr := ⟨_, rfl⟩
  obtain ⟨hrel, g1⟩ := hrel
  replace hA := hA.grow g1
  replace G := G.grow g1
  have zg1 := g1.size
  obtain ⟨k, rfl, hk, hs⟩ := hrel
  have GL1 := g1
  refine wp_seq_k fun K4 hK4 => ?_
  refine wp_seq_k fun K5 hK5 => ?_
  refine Sb 19 rfl ?_  -- 2
  refine S_val (Y_move rfl) ?_
  refine S_val (Y_move rfl) ?_
  refine S_val (Y_len Try.underlying93 rfl) ?_
  refine S_val (Y_lss rfl rfl) ?_
  refine S_nl rfl rfl ?_
  refine th_n (hK5 _ _ ?_)
  clear hK5 K5
  refine S_if rfl (fun hb1 => ?_) (fun hb1 => ?_)  -- c1
  · -- c1T
   replace hb1 := nb_tt hb1
   have hk1 : k < xs.length := by omega
   obtain ⟨g2, o2, rfl, hp2, cc20⟩ := hA0.cell hk1
   have cc2 := cc20.grow G
   refine wp_skip ?_
   refine th_n (hK4 _ _ ?_)
   clear hK4 K4
   refine wp_seq_k fun K6 hK6 => ?_
   refine wp_block ?_
   refine wp_seq_k fun K7 hK7 => ?_
   refine Sb 19 rfl ?_  -- 4
   refine S_val (Y_move rfl) ?_
   refine S_val (Y_move rfl) ?_
   refine S_val (Y_index Try.underlying93 sz112 rfl rfl (by first | assumption | omega)) ?_
   refine S_val (Y_loadS Try.underlying112 rfl sz112 rfl (by first | assumption | skip)) ?_  -- l1
   refine S_call rfl en125 (spec_CommandValid_c _ _ _ _ _) ?_  -- k1 spec.CommandValid
   rintro v2 w2 ⟨rfl, g2⟩
   replace hA := hA.grow g2
   replace cc2 := cc2.grow g2
   replace G := G.grow g2
   replace GL1 := GL1.grow g2
   have zg2 := g2.size
   refine S_val (Y_not rfl) ?_
   refine S_nl rfl rfl ?_
   refine th_n (hK7 _ _ ?_)
   clear hK7 K7
   refine S_if rfl (fun hb2 => ?_) (fun hb2 => ?_)  -- c2
   · -- c2T
    first | with_reducible (replace hb2 := nb_nt hb2) | with_reducible (replace hb2 := nb_tt hb2) | with_reducible (replace hb2 := nb_bt hb2) | skip
    refine wp_seq_k fun K8 hK8 => ?_
    refine Sb 19 rfl ?_  -- 5
    refine S_val (Y_assign rfl) ?_
    refine S_nl rfl rfl ?_
    refine th_n (hK8 _ _ ?_)
    clear hK8 K8
    refine wp_ret ?_
    refine ib_r ?_
    refine th_r ?_
    try clear GL1
    refine th_r ?_
    refine ib_r ?_
    refine th_r ?_
    clear hK6 K6 hK2 K2
    refine ret_r1 rfl rfl ?_  -- r1
    exact ⟨csB_bad hk1 hb2, G⟩
   · -- c2F
    first | with_reducible (replace hb2 := nb_nf hb2) | with_reducible (replace hb2 := nb_tf hb2) | with_reducible (replace hb2 := nb_bf hb2) | skip
    refine wp_skip ?_
    refine ib_n ?_
    refine th_n (hK6 _ _ ?_)
    clear hK6 K6
    refine Sb 19 rfl ?_  -- 3
    refine S_val (Y_move rfl) ?_
    refine S_val (Y_inc rfl rfl (by omega)) ?_
    refine S_val (Y_assign rfl) ?_
    refine S_nl rfl rfl ?_
    refine th_n ?_
    go_roundw  -- e1 of L1
    case rel =>
     refine ⟨?_, GL1⟩
     exact ⟨k + 1, rfl, by omega, all_take_succ (by omega) hs hb2⟩
    case measure =>
     exact dec_nat (by omega)
  · -- c1F
   replace hb1 := nb_tf hb1
   refine wp_exit ?_
   refine th_x ?_
   try clear GL1
   refine th_x ?_
   refine ib_e ?_
   refine th_n (hK2 _ _ ?_)
   clear hK4 K4 hK2 K2
   refine wp_seq_k fun K9 hK9 => ?_
   refine Sb 19 rfl ?_  -- 6
   refine S_val (Y_move rfl) ?_
   refine S_val (Y_len Try.underlying93 rfl) ?_
   refine S_val (Y_leq rfl rfl) ?_
   refine S_val (Y_assign rfl) ?_
   refine S_nl rfl rfl ?_
   refine th_n (hK9 _ _ ?_)
   clear hK9 K9
   refine wp_ret ?_
   refine ret_r1 rfl rfl ?_  -- r2
   rw [← csB_ok (all_of_take (by omega) hs)]
   exact ⟨bI (by omega), G⟩
end
/-! WalkW -/
section
open Go Go.RowKit
attribute [local irreducible] wpList wpAnyH Code.wp dOp
set_option maxHeartbeats 400000 in
set_option maxRecDepth 20000 in
theorem spec_l8Place_c (Pr : Nat → Prop) (A B : Option Addr) (h : LH) (c d n : Nat) (r pc : Int) (w : World) (hA : RC Pr w A h.cells) (hB : R1 Pr w B (ints h.roots)) (hz : hsize h ≤ 1048576) (va : Valid h) (hn : n < h.roots.length) (hr : h.roots[n] = r) :
    Calls Try.prog 131 #[.agg #[.slice A h.cells.length c, .slice B h.roots.length d], .int .i64 r, .int .i64 pc] w (Ret fun v w' => v = .bool (placeB h (n : Int) pc) ∧ Grow w w') := by
 have hz1 := hsize_cells h
 have hz2 := hsize_roots h
 refine enter Try.func131 rfl Try.ntmps131 (L := [_,_,_,_,_,_,_,_,_,_,_,_,_,_,_,_,_,_,_,_]) rfl ?_
 have G := Mod.refl No w
 have hA0 := hA
 have hB0 := hB
 refine wp_seq_k fun K1 hK1 => ?_
 refine Sb 20 rfl ?_  -- 0
 refine S_box (cs := [_, _]) rfl rfl ?_
 intro b1 w1 fb1 g1 B1
 have lb1 := B1.lt
 replace hA := hA.grow g1
 replace hB := hB.grow g1
 replace G := G.grow g1
 have zg1 := g1.size
 refine S_val (Y_assign rfl) ?_
 refine S_nl rfl rfl ?_
 refine th_n (hK1 _ _ ?_)
 clear hK1 K1
 refine wp_seq_k fun K2 hK2 => ?_
 refine Sb 20 rfl ?_  -- 1
 refine S_val (Y_move rfl) ?_
 refine S_val (Y_geq rfl rfl) ?_
 refine S_val (Y_move rfl) ?_
 refine S_g 9 rfl (fun hb1 => ?_) (fun hb1 => ?_)  -- g1
 · -- g1T
  replace hb1 := nb_tt hb1
  obtain ⟨m, hm, hmN⟩ := valid_root va hn (by omega)
  obtain ⟨g2, o2, E2, d2, rfl, hp2, cc20, _⟩ := hA0.cell hmN
  have cc2 := cc20.grow G
  have hpl := placeB_pos (c := pc) hn hm hmN
  rw [hr] at hm
  subst hm
  refine S_on rfl rfl ?_
  refine S_val (Y_move rfl) ?_
  refine S_on rfl rfl ?_
  refine S_val (Y_field Try.underlying26 rfl fz26_0 (by decide) rfl) ?_
  refine S_on rfl rfl ?_
  refine S_val (Y_load Try.underlying23 rfl rfl (B1.at (by rfl))) ?_  -- l1
  refine S_on rfl rfl ?_
  refine S_val (Y_move rfl) ?_
  refine S_on rfl rfl ?_
  refine S_val (Y_index Try.underlying23 sz37 rfl rfl (by first | assumption | omega)) ?_
  refine S_on rfl rfl ?_
  refine S_val (Y_field Try.underlying37 rfl fz37_2 (by decide) rfl) ?_
  refine S_on rfl rfl ?_
  refine S_val (Y_load Try.underlying24 rfl rfl (by first | assumption | exact cc2.at (by rfl) | exact B1.at (by rfl))) ?_  -- l2
  refine S_on rfl rfl ?_
  refine S_val (Y_len Try.underlying24 rfl) ?_
  refine S_on rfl rfl ?_
  refine S_val (Y_lss rfl rfl) ?_
  refine S_val (Y_pickT rfl rfl) ?_
  refine S_val (Y_assign rfl) ?_
  refine S_nl rfl rfl ?_
  refine th_n (hK2 _ _ ?_)
  clear hK2 K2
  refine wp_ret ?_
  refine ret_r1 rfl rfl ?_  -- r1
  exact ⟨by rw [hpl], G⟩
 · -- g1F
  replace hb1 := nb_tf hb1
  refine S_off rfl rfl ?_
  refine S_off rfl rfl ?_
  refine S_off rfl rfl ?_
  refine S_off rfl rfl ?_
  refine S_off rfl rfl ?_
  refine S_off rfl rfl ?_
  refine S_off rfl rfl ?_
  refine S_off rfl rfl ?_
  refine S_off rfl rfl ?_
  refine S_val (Y_pickF rfl rfl) ?_
  refine S_val (Y_assign rfl) ?_
  refine S_nl rfl rfl ?_
  refine th_n (hK2 _ _ ?_)
  clear hK2 K2
  refine wp_ret ?_
  refine ret_r1 rfl rfl ?_  -- r2
  exact ⟨by rw [placeB_neg hn (by omega)], G⟩
set_option maxHeartbeats 400000 in
set_option maxRecDepth 20000 in
theorem spec_CommandPossible_c (Pr : Nat → Prop) (A B : Option Addr) (h : LH) (c d : Nat) (oop oa ob oc : Int) (w : World) (hA : RC Pr w A h.cells) (hB : R1 Pr w B (ints h.roots)) (hz : hsize h ≤ 1048576) :
    Calls Try.prog 126 #[.agg #[.slice A h.cells.length c, .slice B h.roots.length d], .agg #[.int .i64 oop, .int .i64 oa, .int .i64 ob, .int .i64 oc]] w (Ret fun v w' => v = .bool (possB h ⟨oop, oa, ob, oc⟩) ∧ Grow w w') := by
 have hz1 := hsize_cells h
 have hz2 := hsize_roots h
 refine enter Try.func126 rfl Try.ntmps126 (L := [_,_,_,_,_,_,_,_,_,_,_,_,_,_,_,_,_,_,_,_,_,_,_,_,_,_,_,_,_,_,_,_,_,_,_,_,_,_,_,_,_,_,_,_,_,_,_,_]) rfl ?_
 have G := Mod.refl No w
 have hA0 := hA
 have hB0 := hB
 refine wp_seq_k fun K1 hK1 => ?_
 refine Sb 48 rfl ?_  -- 0
 refine S_box (cs := [_, _]) rfl rfl ?_
 intro b1 w1 fb1 g1 B1
 have lb1 := B1.lt
 replace hA := hA.grow g1
 replace hB := hB.grow g1
 replace G := G.grow g1
 have zg1 := g1.size
 refine S_box (cs := [_, _, _, _]) rfl rfl ?_
 intro b2 w2 fb2 g2 B2
 have lb2 := B2.lt
 replace hA := hA.grow g2
 replace hB := hB.grow g2
 replace G := G.grow g2
 replace B1 := B1.grow g2
 have zg2 := g2.size
 refine S_val (Y_assign rfl) ?_
 refine S_nl rfl rfl ?_
 refine th_n (hK1 _ _ ?_)
 clear hK1 K1
 refine wp_seq_k fun K2 hK2 => ?_
 refine wp_seq_k fun K3 hK3 => ?_
 refine Sb 48 rfl ?_  -- 1
 refine S_val (Y_loadS Try.underlying26 rfl sz26 rfl (B1.row (by rfl))) ?_  -- l1
 refine S_call rfl en19 (spec_HeapValid_c _ _ _ _ _ _ _ (by assumption) (by assumption) (by omega)) ?_  -- k1 spec.HeapValid
 rintro v3 w3 ⟨rfl, g3⟩
 replace hA := hA.grow g3
 replace hB := hB.grow g3
 replace G := G.grow g3
 replace B1 := B1.grow g3
 replace B2 := B2.grow g3
 have zg3 := g3.size
 refine S_val (Y_not rfl) ?_
 refine S_val (Y_move rfl) ?_
 refine S_g 8 rfl (fun hb1 => ?_) (fun hb1 => ?_)  -- g1
 · -- g1T
  first | with_reducible (replace hb1 := nb_nt hb1) | with_reducible (replace hb1 := nb_tt hb1) | with_reducible (replace hb1 := nb_bt hb1) | skip
  refine S_off rfl rfl ?_
  refine S_off rfl rfl ?_
  refine S_off rfl rfl ?_
  refine S_val (Y_pickT rfl rfl) ?_
  refine S_nl rfl rfl ?_
  refine th_n (hK3 _ _ ?_)
  clear hK3 K3
  refine S_ifT rfl ?_
  refine wp_seq_k fun K4 hK4 => ?_
  refine Sb 48 rfl ?_  -- 2
  refine S_val (Y_assign rfl) ?_
  refine S_nl rfl rfl ?_
  refine th_n (hK4 _ _ ?_)
  clear hK4 K4
  refine wp_ret ?_
  refine th_r ?_
  clear hK2 K2
  refine ret_r1 rfl rfl ?_  -- r1
  exact ⟨by rw [possB_f1 hb1], G⟩
 · -- g1F
  first | with_reducible (replace hb1 := nb_nf hb1) | with_reducible (replace hb1 := nb_tf hb1) | with_reducible (replace hb1 := nb_bf hb1) | skip
  have va := valid_iff.1 hb1
  have hr4 := va.roots4
  refine S_on rfl rfl ?_
  refine S_val (Y_loadS Try.underlying112 rfl sz112 rfl (B2.row (by rfl))) ?_  -- l2
  refine S_on rfl rfl ?_
  refine S_call rfl en125 (spec_CommandValid_c _ _ _ _ _) ?_  -- k2 spec.CommandValid
  rintro v4 w4 ⟨rfl, g4⟩
  replace hA := hA.grow g4
  replace hB := hB.grow g4
  replace G := G.grow g4
  replace B1 := B1.grow g4
  replace B2 := B2.grow g4
  have zg4 := g4.size
  refine S_on rfl rfl ?_
  refine S_val (Y_not rfl) ?_
  refine S_val (Y_pickF rfl rfl) ?_
  refine S_nl rfl rfl ?_
  refine th_n (hK3 _ _ ?_)
  clear hK3 K3
  refine S_if rfl (fun hb2 => ?_) (fun hb2 => ?_)  -- c1
  · -- c1T
   first | with_reducible (replace hb2 := nb_nt hb2) | with_reducible (replace hb2 := nb_tt hb2) | with_reducible (replace hb2 := nb_bt hb2) | skip
   refine wp_seq_k fun K5 hK5 => ?_
   refine Sb 48 rfl ?_  -- 2
   refine S_val (Y_assign rfl) ?_
   refine S_nl rfl rfl ?_
   refine th_n (hK5 _ _ ?_)
   clear hK5 K5
   refine wp_ret ?_
   refine th_r ?_
   clear hK2 K2
   refine ret_r1 rfl rfl ?_  -- r2
   exact ⟨by rw [possB_f2 hb2], G⟩
  · -- c1F
   first | with_reducible (replace hb2 := nb_nf hb2) | with_reducible (replace hb2 := nb_tf hb2) | with_reducible (replace hb2 := nb_bf hb2) | skip
   have hcp := cvB_d0 hb2
   have hcq := hcp
   unfold cvP at hcq
   dsimp only at hcq
   refine wp_skip ?_
   refine th_n (hK2 _ _ ?_)
   clear hK2 K2
   refine wp_seq_k fun K6 hK6 => ?_
   refine wp_seq_k fun K7 hK7 => ?_
   refine Sb 48 rfl ?_  -- 3
   refine S_val (Y_field Try.underlying112 rfl fz112_0 (by decide) rfl) ?_
   refine S_val (Y_load Try.underlying3 rfl rfl (B2.at (by rfl))) ?_  -- l3
   refine S_nl rfl rfl ?_
   refine th_n (hK7 _ _ ?_)
   clear hK7 K7
   refine wp_block ?_
   refine wp_seq_k fun K8 hK8 => ?_
   refine Sb 48 rfl ?_  -- 4
   refine S_val (Y_eql rfl rfl) ?_
   refine S_val (Y_assign rfl) ?_
   refine S_nl rfl rfl ?_
   refine th_n (hK8 _ _ ?_)
   clear hK8 K8
   refine S_if rfl (fun hb3 => ?_) (fun hb3 => ?_)  -- c2
   · -- c2T
    replace hb3 := nb_tt hb3
    obtain ⟨n, hn⟩ := Int.eq_ofNat_of_zero_le (show 0 ≤ ob by omega)
    subst hn
    have hn4 : n < h.roots.length := by omega
    refine wp_seq_k fun K9 hK9 => ?_
    refine D_start 11 48 (fun w => Mod (No) w) follows rfl rfl ?_  -- d1 r5
    intro w5 g5
    replace hA := hA.grow g5
    replace hB := hB.grow g5
    replace G := G.grow g5
    replace B1 := B1.grow g5
    replace B2 := B2.grow g5
    have zg5 := g5.size
    have GS5 := Mod.refl (No) w5
    obtain ⟨g1, o1, e1, hp1, hc1⟩ := hB.int hn4
    cases e1
    have B1d5 := B1
    have B2d5 := B2
    refine Dq (i := 0) rfl GS5 (fun _ hs => Y_loadS Try.underlying26 rfl sz26 rfl (by first | exact hs.cells0 (B1.row (by rfl)))) ?_
    refine Dq (i := 1) rfl GS5 (fun _ _ => Y_field Try.underlying26 rfl fz26_1 (by decide) rfl) ?_
    refine Dq (i := 2) rfl GS5 (fun _ hs => Y_load Try.underlying24 rfl rfl (hs.cell0 (B1.at (by rfl)))) ?_
    refine Dq (i := 3) rfl GS5 (fun _ _ => Y_field Try.underlying112 rfl fz112_2 (by decide) rfl) ?_
    refine Dq (i := 4) rfl GS5 (fun _ hs => Y_load Try.underlying3 rfl rfl (hs.cell0 (B2.at (by rfl)))) ?_
    refine Dq (i := 5) rfl GS5 (fun _ _ => Y_index Try.underlying24 sz3 rfl rfl (by first | assumption | omega)) ?_
    refine Dq (i := 6) rfl GS5 (fun _ hs => Y_load Try.underlying3 rfl rfl (by first | exact hs.cell0 (by assumption) | exact hs.cell0 (B1.at (by rfl)) | exact hs.cell0 (B2.at (by rfl)))) ?_
    refine Dq (i := 7) rfl GS5 (fun _ _ => Y_field Try.underlying112 rfl fz112_3 (by decide) rfl) ?_
    refine Dq (i := 8) rfl GS5 (fun _ hs => Y_load Try.underlying3 rfl rfl (hs.cell0 (B2.at (by rfl)))) ?_
    refine D_1 (i := 9) (by kernel_rfl) ?_
    refine E_call rfl rfl en131 (spec_l8Place_c _ _ _ h _ _ n _ _ _ hA hB (by omega) va hn4 rfl) ?_  -- k3 spec.l8Place
    rintro v6 w6 ⟨rfl, g6⟩
    replace hA := hA.grow g6
    replace hB := hB.grow g6
    replace G := G.grow g6
    replace GS5 := GS5.grow g6
    replace B1 := B1.grow g6
    replace B2 := B2.grow g6
    have zg6 := g6.size
    refine ⟨GS5, ?_⟩
    refine Dq (i := 10) rfl GS5 (fun _ _ => Y_assign rfl) ?_
    refine D_en (by kernel_rfl) rfl rfl ?_
    refine th_n (hK9 _ _ ?_)
    clear hK9 K9
    refine wp_ret ?_
    refine ib_r ?_
    refine th_r ?_
    clear hK6 K6
    refine ret_r1 rfl rfl ?_  -- r3
    exact ⟨by rw [possB_t hb1 hb2]; simp [effectB, hb3], G⟩
   · -- c2F
    replace hb3 := nb_tf hb3
    refine wp_seq_k fun K10 hK10 => ?_
    refine Sb 48 rfl ?_  -- 6
    refine S_val (Y_eql rfl rfl) ?_
    refine S_val (Y_assign rfl) ?_
    refine S_nl rfl rfl ?_
    refine th_n (hK10 _ _ ?_)
    clear hK10 K10
    refine S_if rfl (fun hb4 => ?_) (fun hb4 => ?_)  -- c3
    · -- c3T
     replace hb4 := nb_tt hb4
     obtain ⟨n, hn⟩ := Int.eq_ofNat_of_zero_le (show 0 ≤ oa by omega)
     subst hn
     have hn4 : n < h.roots.length := by omega
     refine wp_seq_k fun K11 hK11 => ?_
     refine D_start 11 48 (fun w => Mod (No) w) follows rfl rfl ?_  -- d2 r7
     intro w7 g7
     replace hA := hA.grow g7
     replace hB := hB.grow g7
     replace G := G.grow g7
     replace B1 := B1.grow g7
     replace B2 := B2.grow g7
     have zg7 := g7.size
     have GS7 := Mod.refl (No) w7
     obtain ⟨g1, o1, e1, hp1, hc1⟩ := hB.int hn4
     cases e1
     have B1d7 := B1
     have B2d7 := B2
     refine Dq (i := 0) rfl GS7 (fun _ hs => Y_loadS Try.underlying26 rfl sz26 rfl (by first | exact hs.cells0 (B1.row (by rfl)))) ?_
     refine Dq (i := 1) rfl GS7 (fun _ _ => Y_field Try.underlying26 rfl fz26_1 (by decide) rfl) ?_
     refine Dq (i := 2) rfl GS7 (fun _ hs => Y_load Try.underlying24 rfl rfl (hs.cell0 (B1.at (by rfl)))) ?_
     refine Dq (i := 3) rfl GS7 (fun _ _ => Y_field Try.underlying112 rfl fz112_1 (by decide) rfl) ?_
     refine Dq (i := 4) rfl GS7 (fun _ hs => Y_load Try.underlying3 rfl rfl (hs.cell0 (B2.at (by rfl)))) ?_
     refine Dq (i := 5) rfl GS7 (fun _ _ => Y_index Try.underlying24 sz3 rfl rfl (by first | assumption | omega)) ?_
     refine Dq (i := 6) rfl GS7 (fun _ hs => Y_load Try.underlying3 rfl rfl (by first | exact hs.cell0 (by assumption) | exact hs.cell0 (B1.at (by rfl)) | exact hs.cell0 (B2.at (by rfl)))) ?_
     refine Dq (i := 7) rfl GS7 (fun _ _ => Y_field Try.underlying112 rfl fz112_3 (by decide) rfl) ?_
     refine Dq (i := 8) rfl GS7 (fun _ hs => Y_load Try.underlying3 rfl rfl (hs.cell0 (B2.at (by rfl)))) ?_
     refine D_1 (i := 9) (by kernel_rfl) ?_
     refine E_call rfl rfl en131 (spec_l8Place_c _ _ _ h _ _ n _ _ _ hA hB (by omega) va hn4 rfl) ?_  -- k4 spec.l8Place
     rintro v8 w8 ⟨rfl, g8⟩
     replace hA := hA.grow g8
     replace hB := hB.grow g8
     replace G := G.grow g8
     replace GS7 := GS7.grow g8
     replace B1 := B1.grow g8
     replace B2 := B2.grow g8
     have zg8 := g8.size
     refine ⟨GS7, ?_⟩
     refine Dq (i := 10) rfl GS7 (fun _ _ => Y_assign rfl) ?_
     refine D_en (by kernel_rfl) rfl rfl ?_
     refine th_n (hK11 _ _ ?_)
     clear hK11 K11
     refine wp_ret ?_
     refine ib_r ?_
     refine th_r ?_
     clear hK6 K6
     refine ret_r1 rfl rfl ?_  -- r4
     exact ⟨by rw [possB_t hb1 hb2]; simp [effectB, hb3, hb4], G⟩
    · -- c3F
     replace hb4 := nb_tf hb4
     refine wp_seq_k fun K12 hK12 => ?_
     refine Sb 48 rfl ?_  -- 8
     refine S_val (Y_eql rfl rfl) ?_
     refine S_val (Y_assign rfl) ?_
     refine S_nl rfl rfl ?_
     refine th_n (hK12 _ _ ?_)
     clear hK12 K12
     refine S_if rfl (fun hb5 => ?_) (fun hb5 => ?_)  -- c4
     · -- c4T
      replace hb5 := nb_tt hb5
      obtain ⟨n, hn⟩ := Int.eq_ofNat_of_zero_le (show 0 ≤ oa by omega)
      subst hn
      have hn4 : n < h.roots.length := by omega
      obtain ⟨g1, o1, e1, hp1, hc1⟩ := hB.int hn4
      cases e1
      refine wp_seq_k fun K13 hK13 => ?_
      refine Sb 48 rfl ?_  -- 9
      refine S_val (Y_field Try.underlying26 rfl fz26_1 (by decide) rfl) ?_
      refine S_val (Y_load Try.underlying24 rfl rfl (B1.at (by rfl))) ?_  -- l14
      refine S_val (Y_field Try.underlying112 rfl fz112_1 (by decide) rfl) ?_
      refine S_val (Y_load Try.underlying3 rfl rfl (B2.at (by rfl))) ?_  -- l15
      refine S_val (Y_index Try.underlying24 sz3 rfl rfl (by first | assumption | omega)) ?_
      refine S_val (Y_load Try.underlying3 rfl rfl (by first | assumption | exact B1.at (by rfl) | exact B2.at (by rfl))) ?_  -- l16
      refine S_val (Y_geq rfl rfl) ?_
      refine S_val (Y_assign rfl) ?_
      refine S_nl rfl rfl ?_
      refine th_n (hK13 _ _ ?_)
      clear hK13 K13
      refine wp_ret ?_
      refine ib_r ?_
      refine th_r ?_
      clear hK6 K6
      refine ret_r1 rfl rfl ?_  -- r5
      exact ⟨by rw [possB_t hb1 hb2]; simp [effectB, hb3, hb4, hb5, rootB_at hn4], G⟩
     · -- c4F
      replace hb5 := nb_tf hb5
      refine wp_skip ?_
      refine ib_n ?_
      refine th_n (hK6 _ _ ?_)
      clear hK6 K6
      refine wp_seq_k fun K14 hK14 => ?_
      refine Sb 48 rfl ?_  -- 10
      refine S_val (Y_assign rfl) ?_
      refine S_nl rfl rfl ?_
      refine th_n (hK14 _ _ ?_)
      clear hK14 K14
      refine wp_ret ?_
      refine ret_r1 rfl rfl ?_  -- r6
      exact ⟨by rw [possB_t hb1 hb2]; simp [effectB, hb3, hb4, hb5], G⟩
end
/-! WalkO -/
section
open Go Go.RowKit
attribute [local irreducible] wpList wpAnyH Code.wp dOp
def emptyH : LH := ⟨[], List.replicate 4 (-1)⟩
theorem OH.bare {Pr : Nat → Prop} {w : World} {eC eI : TypeId} {A B : Option Addr} {xs : List Int} (r : OI Pr w eI B (ints xs)) : OH Pr w eC eI A B ⟨[], xs⟩ [] := ⟨OC.nil _ _ _ _ _, r, fun i c q h => by simp at h⟩
theorem rep_snoc (k : Nat) : List.replicate k (-1 : Int) ++ [-1] = List.replicate (k + 1) (-1) := by simp [List.replicate_succ']
end
end Go.Proofs.Ytikgflhepclfgab
