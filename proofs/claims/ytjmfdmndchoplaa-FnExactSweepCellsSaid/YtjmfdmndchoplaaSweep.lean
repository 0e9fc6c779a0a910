/-
  Heaps in which cells are freed: as data, and in memory.
  Conditions: none.
-/
import Derived.Test.YtjmfdmndchoplaaGrow
import Derived.Test.YtjmfdmndchoplaaDead
namespace Go.Proofs.Ytjmfdmndchoplaa
open Go Go.RowKit

def emptyC : LC := ⟨false, 0, []⟩
/-- The cells of p are freed. -/
def dropC (cs : List LC) (p : Nat → Bool) : List LC := (List.range cs.length).map fun k => match cs[k]? with
  | some c => if p k = true then emptyC else c
  | none => emptyC
theorem dropC_len (cs : List LC) (p : Nat → Bool) : (dropC cs p).length = cs.length := by simp [dropC]
theorem dropC_get {cs : List LC} {p : Nat → Bool} {k : Nat} (hk : k < cs.length) : (dropC cs p)[k]? = some (if p k = true then emptyC else cs[k]) := by simp [dropC, hk]
theorem dropC_at {cs : List LC} {p : Nat → Bool} {k : Nat} (hk : k < (dropC cs p).length) : (dropC cs p)[k] = if p k = true then emptyC else cs[k]'(by rw [dropC_len] at hk; exact hk) := by
  have h1 : k < cs.length := by rw [dropC_len] at hk; exact hk
  have h2 := dropC_get (p := p) h1
  rw [List.getElem?_eq_getElem hk] at h2
  exact Option.some.inj h2
theorem dropC_ext {cs : List LC} {p q : Nat → Bool} (h : ∀ (k : Nat) (hk : k < cs.length), (if p k = true then emptyC else cs[k]) = (if q k = true then emptyC else cs[k])) : dropC cs p = dropC cs q := by
  apply List.ext_getElem?
  intro i
  by_cases hi : i < cs.length
  · rw [dropC_get hi, dropC_get hi, h i hi]
  · rw [List.getElem?_eq_none (by rw [dropC_len]; omega), List.getElem?_eq_none (by rw [dropC_len]; omega)]
theorem dropC_none {cs : List LC} {p : Nat → Bool} (h : ∀ k, k < cs.length → p k = false) : dropC cs p = cs := by
  apply List.ext_getElem?
  intro i
  by_cases hi : i < cs.length
  · rw [dropC_get hi, h i hi, List.getElem?_eq_getElem hi]
    rfl
  · rw [List.getElem?_eq_none (by rw [dropC_len]; omega), List.getElem?_eq_none (by omega)]
/-- The first k cells are looked at. -/
def dropK (cs : List LC) (p : Nat → Bool) (k : Nat) : List LC := dropC cs fun i => p i && decide (i < k)
theorem dropK_len (cs : List LC) (p : Nat → Bool) (k : Nat) : (dropK cs p k).length = cs.length := dropC_len _ _
theorem dropK_zero (cs : List LC) (p : Nat → Bool) : dropK cs p 0 = cs := dropC_none (by simp)
theorem dropK_all {cs : List LC} {p : Nat → Bool} {k : Nat} (hk : cs.length ≤ k) : dropK cs p k = dropC cs p := dropC_ext (fun i hi => by
  have : i < k := by omega
  simp [this])
theorem dropK_get {cs : List LC} {p : Nat → Bool} {k : Nat} (hk : k < cs.length) : (dropK cs p k)[k]? = some cs[k] := by
  unfold dropK
  rw [dropC_get hk]
  simp
theorem dropK_at {cs : List LC} {p : Nat → Bool} {k : Nat} (hk : k < (dropK cs p k).length) : (dropK cs p k)[k] = cs[k]'(by rw [dropK_len] at hk; exact hk) := by
  have h1 : k < cs.length := by rw [dropK_len] at hk; exact hk
  have h2 := dropK_get (p := p) h1
  rw [List.getElem?_eq_getElem hk] at h2
  exact Option.some.inj h2
theorem dropK_yes {cs : List LC} {p : Nat → Bool} {k : Nat} (hk : k < cs.length) (hp : p k = true) : (dropK cs p k).set k emptyC = dropK cs p (k + 1) := by
  apply List.ext_getElem?
  intro i
  rw [List.getElem?_set]
  by_cases hi : i < cs.length
  · by_cases h2 : k = i
    · subst h2
      rw [if_pos rfl, if_pos (by rw [dropK_len]; exact hk)]
      unfold dropK
      rw [dropC_get hi]
      simp [hp]
    · rw [if_neg h2]
      unfold dropK
      rw [dropC_get hi, dropC_get hi]
      have : (decide (i < k) : Bool) = decide (i < k + 1) := by
        rw [decide_eq_decide]
        omega
      rw [this]
  · rw [if_neg (by omega), List.getElem?_eq_none (by rw [dropK_len]; omega), List.getElem?_eq_none (by rw [dropK_len]; omega)]
theorem dropK_no {cs : List LC} {p : Nat → Bool} {k : Nat} (hp : p k = false) : dropK cs p (k + 1) = dropK cs p k := dropC_ext (fun i hi => by
  by_cases h2 : i = k
  · subst h2
    simp [hp]
  · have : (decide (i < k + 1) : Bool) = decide (i < k) := by
      rw [decide_eq_decide]
      omega
    rw [this])
def dropH (h : LH) (p : Nat → Bool) : LH := ⟨dropC h.cells p, h.roots⟩
theorem usedAt_drop {cs : List LC} {p : Nat → Bool} (n : Nat) : usedAt (dropC cs p) n = (usedAt cs n && !p n) := by
  by_cases hn : n < cs.length
  · unfold usedAt
    rw [dropC_get hn, List.getElem?_eq_getElem hn]
    cases hp : p n <;> simp [emptyC]
  · unfold usedAt
    rw [List.getElem?_eq_none (by rw [dropC_len]; omega), List.getElem?_eq_none (by omega)]
    rfl
theorem refsOf_drop {cs : List LC} {p : Nat → Bool} (n : Nat) : refsOf (dropC cs p) n = if p n = true then [] else refsOf cs n := by
  by_cases hn : n < cs.length
  · unfold refsOf
    rw [dropC_get hn, List.getElem?_eq_getElem hn]
    cases hp : p n <;> simp [emptyC]
  · unfold refsOf
    rw [List.getElem?_eq_none (by rw [dropC_len]; omega), List.getElem?_eq_none (by omega)]
    simp
theorem leadsB_drop {cs : List LC} {p : Nat → Bool} {r : Int} (hr : leadsB cs r = true) : leadsB (dropC cs p) r = true ↔ ¬ (0 ≤ r ∧ p r.toNat = true) := by
  unfold leadsB at *
  rw [usedAt_drop]
  by_cases h0 : 0 ≤ r
  · have h1 : ¬ r = -1 := by omega
    simp only [h1, h0, decide_false, decide_true, Bool.false_or, Bool.true_and] at hr ⊢
    rw [hr]
    cases p r.toNat <;> simp
  · simp only [h0, decide_false, Bool.false_and, Bool.or_false, decide_eq_true_eq] at hr ⊢
    simp [hr]
/-- No root, and no cell that stays, refers to a cell that is freed. -/
def Keeps (h : LH) (p : Nat → Bool) : Prop := (∀ r ∈ h.roots, ¬ (0 ≤ r ∧ p r.toNat = true)) ∧ ∀ n, p n = false → ∀ r ∈ refsOf h.cells n, ¬ (0 ≤ r ∧ p r.toNat = true)
theorem emptyC_ok (cs : List LC) : okP cs emptyC := ⟨fun h => (by cases h), fun _ => ⟨rfl, rfl⟩⟩
theorem valid_drop {h : LH} (v : Valid h) (p : Nat → Bool) : validB (dropH h p) = true ↔ Keeps h p := by
  rw [valid_iff]
  constructor
  · intro vd
    refine ⟨fun r hr => (leadsB_drop (v.roots r hr)).1 (vd.roots r hr), fun n hn r hr => ?_⟩
    have h1 := v.leadsU.2 n r hr
    have h2 := vd.leadsU.2 n r (by show r ∈ refsOf (dropC h.cells p) n; rw [refsOf_drop, if_neg (by simp [hn])]; exact hr)
    exact (leadsB_drop h1).1 h2
  · intro k
    refine ⟨by show (dropC h.cells p).length ≤ 40; rw [dropC_len]; exact v.le, v.roots4, fun n hn => ?_, fun r hr => (leadsB_drop (v.roots r hr)).2 (k.1 r hr)⟩
    have hn2 : n < (dropC h.cells p).length := hn
    have hn' : n < h.cells.length := by rwa [dropC_len] at hn2
    show okP (dropC h.cells p) ((dropC h.cells p)[n]'hn2)
    rw [dropC_at]
    split
    · exact emptyC_ok _
    · rename_i hp
      have ho := v.cells n hn'
      refine ⟨fun hu => ?_, ho.2⟩
      obtain ⟨h1, h2⟩ := ho.1 hu
      refine ⟨List.all_eq_true.2 fun r hr => ?_, h2⟩
      exact (leadsB_drop (List.all_eq_true.1 h1 r hr)).2 (k.2 n (by simpa using hp) r (by rw [refsOf_at hn']; exact hr))
theorem valid_empty {h : LH} (v : Valid h) {n : Nat} (hn : n < h.cells.length) (hu : h.cells[n].used = false) : h.cells[n] = emptyC := by
  have := (v.cells n hn).2 hu
  have h2 := List.eq_nil_of_length_eq_zero this.2
  revert hu this h2
  generalize h.cells[n] = c
  intro hu h1 h2
  cases c
  simp_all [emptyC]
/-- To free the unused ones too changes nothing. -/
theorem dropC_used {h : LH} (v : Valid h) (p : Nat → Bool) : dropC h.cells p = dropC h.cells fun i => usedAt h.cells i && p i := dropC_ext (fun k hk => by
  rw [usedAt_at hk]
  cases hu : h.cells[k].used with
  | true => simp
  | false => rw [valid_empty v hk hu]; simp)
/-- What was freed: how many of the first k. -/
def cntP (p : Nat → Bool) (k : Nat) : Nat := (List.range k).countP p
theorem cntP_yes {p : Nat → Bool} {k : Nat} (h : p k = true) : cntP p (k + 1) = cntP p k + 1 := by simp [cntP, List.range_succ, h]
theorem cntP_no {p : Nat → Bool} {k : Nat} (h : p k = false) : cntP p (k + 1) = cntP p k := by simp [cntP, List.range_succ, h]
theorem cntP_le (p : Nat → Bool) (k : Nat) : cntP p k ≤ k := by
  have := List.countP_le_length (p := p) (l := List.range k)
  simpa [cntP] using this
theorem cntP_congr {p q : Nat → Bool} {k : Nat} (h : ∀ i, i < k → p i = q i) : cntP p k = cntP q k := by
  unfold cntP
  apply List.countP_congr
  intro i hi
  rw [h i (by simpa using hi)]
theorem cntP_zero (p : Nat → Bool) : cntP p 0 = 0 := rfl
/-- r leads to a used cell that is not in s. -/
def outR (cs : List LC) (s : Nat → Bool) (r : Int) : Bool := decide (0 ≤ r) && (usedAt cs r.toNat && !s r.toNat)
/-- The references of the cells of s among the first k. -/
def keptL (cs : List LC) (s : Nat → Bool) (k : Nat) : List (List Int) := (List.range k).flatMap fun i => if s i = true then [refsOf cs i] else []
theorem keptL_yes {cs : List LC} {s : Nat → Bool} {k : Nat} (h : s k = true) : keptL cs s (k + 1) = keptL cs s k ++ [refsOf cs k] := by simp [keptL, List.range_succ, h]
theorem keptL_no {cs : List LC} {s : Nat → Bool} {k : Nat} (h : s k = false) : keptL cs s (k + 1) = keptL cs s k := by simp [keptL, List.range_succ, h]
theorem keptL_len (cs : List LC) (s : Nat → Bool) : ∀ k, (keptL cs s k).length ≤ k
  | 0 => by simp [keptL]
  | k + 1 => by
    have := keptL_len cs s k
    cases h : s k with
    | true => rw [keptL_yes h]; simp; omega
    | false => rw [keptL_no h]; omega
theorem keptL_mem {cs : List LC} {s : Nat → Bool} {k : Nat} {xs : List Int} : xs ∈ keptL cs s k ↔ ∃ i, i < k ∧ s i = true ∧ xs = refsOf cs i := by
  unfold keptL
  rw [List.mem_flatMap]
  constructor
  · rintro ⟨i, hi, hx⟩
    split at hx
    · rename_i hs
      exact ⟨i, by simpa using hi, hs, by simpa using hx⟩
    · cases hx
  · rintro ⟨i, hi, hs, rfl⟩
    exact ⟨i, by simpa using hi, by simp [hs]⟩
def allL (h : LH) (s : Nat → Bool) : List (List Int) := h.roots :: keptL h.cells s h.cells.length
def outL (cs : List LC) (s : Nat → Bool) (L : List (List Int)) : Bool := L.any fun xs => xs.any (outR cs s)
def outB (h : LH) (s : Nat → Bool) : Bool := outL h.cells s (allL h s)
theorem out_has {cs : List LC} {u m : Nat} (hu : SetOf u (usedL cs)) (hm : m < 2 ^ 64) (r : Int) : outR cs (fun i => m.testBit i) r = hasB (lessN u m) r := by
  unfold outR hasB
  rw [lessN_bit hu.1 hm, used_set hu]
theorem any_take {α : Type} {p : α → Bool} {xs : List α} {i : Nat} {x : α} (hx : xs[i]? = some x) (h : (xs.take i).any p = false) (hp : p x = false) : (xs.take (i + 1)).any p = false := by
  obtain ⟨hl, he⟩ := List.getElem?_eq_some_iff.1 hx
  rw [List.take_succ_eq_append_getElem hl, List.any_append, h, he]
  simp [hp]
theorem out_hit {cs : List LC} {s : Nat → Bool} {L : List (List Int)} {xs : List Int} {j i : Nat} (hx : L[j]? = some xs) (hi : i < xs.length) (ho : outR cs s xs[i] = true) : outL cs s L = true :=
  List.any_eq_true.2 ⟨xs, List.mem_of_getElem? hx, List.any_eq_true.2 ⟨_, List.getElem_mem hi, ho⟩⟩
theorem outR_ok {h : LH} {s : Nat → Bool} {r : Int} (hl : leadsB h.cells r = true) : outR h.cells s r = false ↔ ¬ (0 ≤ r ∧ (!s r.toNat) = true) := by
  unfold outR
  unfold leadsB at hl
  by_cases h0 : 0 ≤ r
  · have h1 : ¬ r = -1 := by omega
    simp only [h1, h0, decide_false, decide_true, Bool.false_or, Bool.true_and] at hl ⊢
    rw [hl]
    cases s r.toNat <;> simp
  · simp [h0]
theorem out_keeps {h : LH} (v : Valid h) (s : Nat → Bool) : outB h s = false ↔ Keeps h (fun i => !s i) := by
  unfold outB outL allL
  rw [List.any_eq_false]
  constructor
  · intro ho
    have go : ∀ xs ∈ h.roots :: keptL h.cells s h.cells.length, (∀ r ∈ xs, leadsB h.cells r = true) → ∀ r ∈ xs, ¬ (0 ≤ r ∧ (!s r.toNat) = true) := fun xs hxs hl r hr => by
      have h1 := ho xs hxs
      rw [Bool.not_eq_true, List.any_eq_false] at h1
      exact (outR_ok (hl r hr)).1 (by simpa using h1 r hr)
    refine ⟨go h.roots (by simp) v.roots, fun n hn r hr => ?_⟩
    by_cases hN : n < h.cells.length
    · exact go (refsOf h.cells n) (List.mem_cons_of_mem _ (keptL_mem.2 ⟨n, hN, by simpa using hn, rfl⟩)) (v.leadsU.2 n) r hr
    · simp [refsOf, List.getElem?_eq_none (by omega : h.cells.length ≤ n)] at hr
  · intro hk xs hxs
    rw [Bool.not_eq_true, List.any_eq_false]
    intro r hr
    rw [Bool.not_eq_true]
    rcases List.mem_cons.1 hxs with rfl | hxs
    · exact (outR_ok (v.roots r hr)).2 (hk.1 r hr)
    · obtain ⟨i, _, hs, rfl⟩ := keptL_mem.1 hxs
      exact (outR_ok (v.leadsU.2 i r hr)).2 (hk.2 i (by simp [hs]) r hr)
theorem out_valid {h : LH} (v : Valid h) (s : Nat → Bool) : validB (dropH h fun i => !s i) = !outB h s := by
  have h1 := valid_drop v (fun i => !s i)
  have h2 := out_keeps v s
  cases ho : outB h s with
  | false => exact h1.2 (h2.1 ho)
  | true =>
    cases hv : validB (dropH h fun i => !s i) with
    | false => rfl
    | true =>
      have := h2.2 (h1.1 hv)
      rw [ho] at this
      cases this
def sweepP (ms : List Bool) (i : Nat) : Bool := !inB ms i
def sweepN (h : LH) (ms : List Bool) (i : Nat) : Bool := usedAt h.cells i && sweepP ms i
def sweepOk (h : LH) (ms : List Bool) : Bool := validB h && (decide (ms.length = h.cells.length) && validB (dropH h (sweepP ms)))
/-- Sweeping: the heap, and how many were freed. -/
def sweepV (h : LH) (ms : List Bool) : LH × Int := if sweepOk h ms = true then (dropH h (sweepP ms), ((cntP (sweepN h ms) h.cells.length : Nat) : Int)) else (nilH, -1)
theorem sweepV_t {h : LH} {ms : List Bool} (h1 : validB h = true) (h2 : ms.length = h.cells.length) (h3 : validB (dropH h (sweepP ms)) = true) : sweepV h ms = (dropH h (sweepP ms), ((cntP (sweepN h ms) h.cells.length : Nat) : Int)) := if_pos (by simp [sweepOk, h1, h2, h3])
theorem sweepV_f1 {h : LH} {ms : List Bool} (h1 : validB h = false) : sweepV h ms = (nilH, -1) := if_neg (by simp [sweepOk, h1])
theorem sweepV_f2 {h : LH} {ms : List Bool} (h1 : ¬ ms.length = h.cells.length) : sweepV h ms = (nilH, -1) := if_neg (by simp [sweepOk, h1])
theorem sweepV_f3 {h : LH} {ms : List Bool} (h1 : validB (dropH h (sweepP ms)) = false) : sweepV h ms = (nilH, -1) := if_neg (by simp [sweepOk, h1])
theorem drop_small {h : LH} (v : Valid h) (p : Nat → Bool) : hsize (dropH h p) ≤ 200 := hsize_small (by show (dropC h.cells p).length ≤ 40; rw [dropC_len]; exact v.le) (fun c hc => by
  obtain ⟨n, hn, rfl⟩ := List.getElem_of_mem hc
  have hn' : n < (dropC h.cells p).length := hn
  show (dropC h.cells p)[n].refs.length ≤ 3
  rw [dropC_at]
  split
  · simp [emptyC]
  · exact v.refs3 (by rw [dropC_len] at hn'; exact hn')) (by show h.roots.length ≤ 4; rw [v.roots4]; omega)
theorem sweep_small (h : LH) (ms : List Bool) : hsize (sweepV h ms).1 ≤ 200 := by
  unfold sweepV
  split
  · rename_i ho
    unfold sweepOk at ho
    rw [Bool.and_eq_true] at ho
    exact drop_small (valid_iff.1 ho.1) _
  · decide
theorem reachV_le (h : LH) : (reachV h).length ≤ h.cells.length := by
  cases hv : validB h with
  | true => rw [reachV_len hv]; exact Nat.le_refl _
  | false => rw [reachV_f hv]; simp
def lzH (h : LH) : LH := if validB h = true then h else nilH
theorem lzH_t {h : LH} (hv : validB h = true) : lzH h = h := if_pos hv
theorem lzH_f {h : LH} (hv : validB h = false) : lzH h = nilH := if_neg (by simp [hv])
theorem bools_app (s : List Bool) (x : Bool) : bools s ++ [.bool x] = bools (s ++ [x]) := by simp [bools]
theorem inB_not {ms : List Bool} {i : Nat} (h : i < ms.length) : inB (ms.map (fun b => !b)) i = !inB ms i := by
  unfold inB
  rw [List.getElem?_map, List.getElem?_eq_getElem h]
  cases ms[i] <;> rfl
theorem drop_not {h : LH} {ms : List Bool} (hl : ms.length = h.cells.length) : dropH h (inB (ms.map (fun b => !b))) = dropH h (sweepP ms) := by
  unfold dropH
  exact congrArg (LH.mk · h.roots) (dropC_ext (fun k hk => by rw [inB_not (by omega)]; rfl))
/-! ### in memory -/
section
variable {Pr Pr' S : Nat → Prop} {w w' : World} {e eC eI : TypeId} {cs : List LC} {rs : List (Option Addr × Nat)} {A B : Option Addr}
theorem flat_split {k : Nat} {c : LC} {r : Option Addr × Nat} {post : List Value} (hl : rs.length = cs.length) (hc : cs[k]? = some c) (hr : rs[k]? = some r) :
    flatC cs rs ++ post = flatC (cs.take k) (rs.take k) ++ [.bool c.used, .int .i64 c.data, .slice r.1 c.refs.length r.2] ++ (flatC (cs.drop (k + 1)) (rs.drop (k + 1)) ++ post) := by
  rw [flatC_at hl hc hr, List.append_assoc]
theorem flat_put {k : Nat} {c : LC} {r : Option Addr × Nat} {post : List Value} (hl : rs.length = cs.length) (hk : k < cs.length) :
    flatC (cs.take k) (rs.take k) ++ [.bool c.used, .int .i64 c.data, .slice r.1 c.refs.length r.2] ++ (flatC (cs.drop (k + 1)) (rs.drop (k + 1)) ++ post) = flatC (cs.set k c) (rs.set k r) ++ post := by
  have h := flat_split (cs := cs.set k c) (rs := rs.set k r) (k := k) (c := c) (r := r) (post := post) (by simp [hl]) (by simp [hk]) (by simp [hl, hk])
  rw [h, List.take_set_of_le (Nat.le_refl _), List.drop_set_of_lt (by omega), List.take_set_of_le (Nat.le_refl _), List.drop_set_of_lt (by omega)]
/-- A cell becomes one without references. -/
theorem ORs.free (h : ORs Pr w e cs rs) (k : Nat) {c : LC} (hc : c.refs = []) (r : Option Addr × Nat) : ORs Pr w e (cs.set k c) (rs.set k r) := by
  refine ⟨by simp [h.len], fun j x q hx hq => ?_, fun i j x y q q' hx hy hq hq' hij h1 h2 => ?_⟩
  · rcases set_get hx with ⟨e1, e2⟩ | ⟨hij, hx⟩
    · rw [e2, hc]; exact OI.nil _ _ _ _
    · rcases set_get hq with ⟨e1, _⟩ | ⟨_, hq⟩
      · exact absurd e1 hij
      · exact h.own j x q hx hq
  · rcases set_get hx with ⟨e1, e2⟩ | ⟨hi, hx⟩
    · exact absurd (by rw [e2, hc]) h1
    · rcases set_get hy with ⟨e1, e2⟩ | ⟨hj, hy⟩
      · exact absurd (by rw [e2, hc]) h2
      · rcases set_get hq with ⟨e1, _⟩ | ⟨_, hq⟩
        · exact absurd e1 hi
        · rcases set_get hq' with ⟨e1, _⟩ | ⟨_, hq'⟩
          · exact absurd e1 hj
          · exact h.far i j x y q q' hx hy hq hq' hij h1 h2
theorem OI.modT {g : Nat} {arr us : List Value} (h : OI Pr w e A us) (B : Blk w g eC arr.toArray) (hne : eC ≠ e) (m : Mod (fun i => i = g) w w') : OI Pr w' e A us := h.keep m (fun b hb hn e0 => by
  obtain ⟨b', _, e1, _, hB⟩ := h hn
  rw [hb] at e1
  cases e1
  subst e0
  exact B.ne hB hne rfl)
/-- What cells with references are left lie where they lay. -/
def SubC (cs' : List LC) (rs' : List (Option Addr × Nat)) (cs : List LC) (rs : List (Option Addr × Nat)) : Prop := ∀ (i : Nat) (c : LC) (r : Option Addr × Nat), cs'[i]? = some c → rs'[i]? = some r → c.refs ≠ [] → cs[i]? = some c ∧ rs[i]? = some r
theorem SubC.refl (cs : List LC) (rs : List (Option Addr × Nat)) : SubC cs rs cs rs := fun _ _ _ h1 h2 _ => ⟨h1, h2⟩
theorem SubC.free {cs' : List LC} {rs' : List (Option Addr × Nat)} (h : SubC cs' rs' cs rs) (k : Nat) (c : LC) (hc : c.refs = []) (r : Option Addr × Nat) : SubC (cs'.set k c) (rs'.set k r) cs rs := fun i x q hx hq hn => by
  rcases set_get hx with ⟨_, e2⟩ | ⟨hi, hx⟩
  · exact absurd (by rw [e2, hc]) hn
  · rcases set_get hq with ⟨e1, _⟩ | ⟨_, hq⟩
    · exact absurd e1 hi
    · exact h i x q hx hq hn
theorem SubC.cast {cs' cs2 : List LC} {rs' : List (Option Addr × Nat)} (h : SubC cs' rs' cs rs) (e : cs' = cs2) : SubC cs2 rs' cs rs := e ▸ h
theorem OC.cast {cs2 : List LC} (h : OC Pr w eC eI A cs rs) (e : cs = cs2) : OC Pr w eC eI A cs2 rs := e ▸ h
theorem OH.freed {Pr2 : Nat → Prop} {h : LH} {cs' : List LC} {rs' : List (Option Addr × Nat)} (o : OH Pr w eC eI A B h rs) (c : OC Pr' w' eC eI A cs' rs') (sub : SubC cs' rs' h.cells rs) (r : OI Pr2 w' eI B (ints h.roots)) (h1 : ∀ k, Pr' k → S k) (h2 : ∀ k, Pr2 k → S k) : OH S w' eC eI A B ⟨cs', h.roots⟩ rs' :=
  ⟨c.weak h1, r.weak h2, fun i x q hx hq hn hr => by
    obtain ⟨a, b⟩ := sub i x q hx hq hn
    exact o.far i x q a b hn hr⟩
end
/-! ### rows of slices -/
def slv : List (List Int) → List (Option Addr × Nat) → List Value
  | x :: L, r :: rs => .slice r.1 x.length r.2 :: slv L rs
  | _, _ => []
theorem slv_snoc : ∀ {L : List (List Int)} {rs : List (Option Addr × Nat)} (_ : rs.length = L.length) (x : List Int) (r : Option Addr × Nat), slv L rs ++ [.slice r.1 x.length r.2] = slv (L ++ [x]) (rs ++ [r])
  | [], [], _, x, r => rfl
  | y :: L, q :: rs, h, x, r => by
    have := slv_snoc (L := L) (rs := rs) (by simpa using h) x r
    simp only [slv, List.cons_append, this]
  | [], _ :: _, h, _, _ => by simp at h
  | _ :: _, [], h, _, _ => by simp at h
theorem slv_len : ∀ {L : List (List Int)} {rs : List (Option Addr × Nat)}, rs.length = L.length → (slv L rs).length = L.length
  | [], [], _ => rfl
  | y :: L, q :: rs, h => by
    have := slv_len (L := L) (rs := rs) (by simpa using h)
    simp [slv, this]
  | [], _ :: _, h => by simp at h
  | _ :: _, [], h => by simp at h
theorem slv_get : ∀ {L : List (List Int)} {rs : List (Option Addr × Nat)} {i : Nat} {x : List Int} {r : Option Addr × Nat}, L[i]? = some x → rs[i]? = some r → (slv L rs)[i]? = some (.slice r.1 x.length r.2)
  | y :: L, q :: rs, 0, x, r, h1, h2 => by
    simp at h1 h2
    subst h1
    subst h2
    rfl
  | y :: L, q :: rs, i + 1, x, r, h1, h2 => by
    simp at h1 h2
    simpa [slv] using slv_get h1 h2
  | [], _, _, _, _, h1, _ => by simp at h1
  | _ :: _, [], _, _, _, _, h2 => by simp at h2
structure RSs (Pr : Nat → Prop) (w : World) (L : List (List Int)) (rs : List (Option Addr × Nat)) : Prop where
  len : rs.length = L.length
  r1 : ∀ (i : Nat) (xs : List Int) (r : Option Addr × Nat), L[i]? = some xs → rs[i]? = some r → R1 Pr w r.1 (ints xs)
section
variable {Pr S : Nat → Prop} {w w' : World} {L : List (List Int)} {rs : List (Option Addr × Nat)}
theorem RSs.mod (h : RSs Pr w L rs) (m : Mod S w w') (hd : ∀ k, Pr k → ¬ S k) : RSs Pr w' L rs := ⟨h.len, fun i x r h1 h2 => (h.r1 i x r h1 h2).mod m hd⟩
theorem RSs.md (h : RSs Pr w L rs) (m : Mod S w w') (hd : ∀ k, Pr k → ¬ S k := by intro k hk h; first | omega | (dsimp only at hk h; omega) | (dsimp only at hk; omega)) : RSs Pr w' L rs := h.mod m hd
theorem RSs.grow (h : RSs Pr w L rs) (m : Grow w w') : RSs Pr w' L rs := h.mod m (fun _ _ h => h)
theorem RSs.one {A : Option Addr} {xs : List Int} {c : Nat} (h : R1 Pr w A (ints xs)) : RSs Pr w [xs] [(A, c)] := ⟨rfl, fun i x r h1 h2 => by
  cases i with
  | zero =>
    simp at h1 h2
    subst h1
    subst h2
    exact h
  | succ i => simp at h1⟩
theorem RSs.snoc (h : RSs Pr w L rs) {A : Option Addr} {xs : List Int} {c : Nat} (hA : R1 Pr w A (ints xs)) : RSs Pr w (L ++ [xs]) (rs ++ [(A, c)]) := ⟨by simp [h.len], fun i x r h1 h2 => by
  have hl := h.len
  by_cases hi : i < L.length
  · rw [List.getElem?_append_left hi] at h1
    rw [List.getElem?_append_left (by omega)] at h2
    exact h.r1 i x r h1 h2
  · have hlt := (List.getElem?_eq_some_iff.1 h1).1
    simp only [List.length_append, List.length_cons, List.length_nil] at hlt
    have e0 : i = L.length := by omega
    subst e0
    rw [List.getElem?_append_right (Nat.le_refl _)] at h1
    rw [List.getElem?_append_right (by omega)] at h2
    simp at h1
    simp [hl] at h2
    subst h1
    subst h2
    exact hA⟩
end
section
variable {P : Program} {ops : Array Oper} {Q : Exit → Act → World → Prop} {S : World → Prop} {fuel : Nat} {lst : List Bool} {F : Fr} {D : List Deferred} {w : World} {i : Nat}
  {d : Tmp} {ty : TypeId} {pos : String} {af : Array Edge} {e t : TypeId} {x y : Operand}
theorem E_make {n l : Nat} {zv : Value} {z : List Value} {by_ : Nat} (hi : ops[i]? = some ⟨some d, .makeSlice t x y, ty, pos, af, none⟩) (hu : P.underlying t = some (.slice e)) (hz : zr P e = some zv) (hs : sz P e = some z.length) (hb : byt P e = some by_) (hx : ev F x = some (.int .i64 (l : Int))) (hy : ev F y = some (.int .i64 (n : Int))) (hl : l ≤ n) (hn : n * by_ ≤ 281474976710656) (hn2 : n ≤ 9223372036854775807)
    (k : ∀ b w', w.heap.size ≤ b → Grow w w' → Blk w' b e (zeros z n).toArray → S w' ∧ wpAnyH P .any ops Q S fuel (lst.set i true).toArray ⟨(F.put d (.slice (some ⟨b, 0, none⟩) l n)).list.toArray, D⟩ w') (hzc : zv.cells = z.toArray := by rfl) (h0 : 0 < z.length := by decide) :
    dOp P ops Q S fuel lst ⟨F.list.toArray, D⟩ w i :=
  have hk := k _ _ (Nat.le_refl _) (grow_alloc _ _) (Blk.new _ _ _)
  E_val hi (Y_make hu hz hzc hs hb h0 hx hy hl hn hn2) hk.1 hk.2
end
section
variable {P : Program} {ops : Array Oper} {Q : Exit → Act → World → Prop} {S : World → Prop} {rest : List Oper} {fuel : Nat} {lst : List Bool} {F : Fr} {D : List Deferred} {w : World}
  {d : Tmp} {ty : TypeId} {pos : String} {af : Array Edge} {e t : TypeId} {x y : Operand} {zv : Value} {s by_ cap m c i : Nat} {A A2 : Option Addr} {news : List Value} {Pr Pr' : Nat → Prop}
/-- Append to a slice that has no element. -/
theorem S_app0 (ht : P.underlying t = some (.slice e)) (hz : zr P e = some zv) (hs : sz P e = some s) (hb : byt P e = some by_) (hx : ev F x = some (.slice A 0 cap)) (hy : ev F y = some (.slice A2 m c))
    (O : OW Pr w e s A 0 cap []) (hl : news.length = m * s) (hsrc : Src w A2 m news) (h1 : ∀ u ∈ news, u.oneCell' = true) (hlen : m ≤ 1099511627776)
    (hp : ∀ k, Pr k → Pr' k) (hn : Pr' w.heap.size)
    (k : ∀ A' cap' w', OW Pr' w' e s A' m cap' news → Mod Pr w w' → wpList P ops Q rest ⟨(F.put d (.slice A' m cap')).list.toArray, D⟩ w') (hzs : zv.cells.size = s := by rfl) (h0 : 0 < s := by decide) (h9 : by_ ≤ 100 := by decide) :
    wpList P ops Q (⟨some d, .call ⟨.builtin .append, #[x, y], #[t, t]⟩, ty, pos, af, none⟩ :: rest) ⟨F.list.toArray, D⟩ w := by
  refine S_app ht hz hs hb hx hy O hl hsrc h1 (by omega) hp hn (fun A' cap' w' o mm => ?_) hzs h0 h9
  rw [List.nil_append] at o
  have h := k A' cap' w'
  rw [Nat.zero_add] at o ⊢
  exact h o mm
theorem E_app0 (hi : ops[i]? = some ⟨some d, .call ⟨.builtin .append, #[x, y], #[t, t]⟩, ty, pos, af, none⟩) (ht : P.underlying t = some (.slice e)) (hz : zr P e = some zv) (hs : sz P e = some s) (hb : byt P e = some by_) (hx : ev F x = some (.slice A 0 cap)) (hy : ev F y = some (.slice A2 m c))
    (O : OW Pr w e s A 0 cap []) (hl : news.length = m * s) (hsrc : Src w A2 m news) (h1 : ∀ u ∈ news, u.oneCell' = true) (hlen : m ≤ 1099511627776)
    (hp : ∀ k, Pr k → Pr' k) (hn : Pr' w.heap.size)
    (k : ∀ A' cap' w', OW Pr' w' e s A' m cap' news → Mod Pr w w' → S w' ∧ wpAnyH P .any ops Q S fuel (lst.set i true).toArray ⟨(F.put d (.slice A' m cap')).list.toArray, D⟩ w') (hzs : zv.cells.size = s := by rfl) (h0 : 0 < s := by decide) (h9 : by_ ≤ 100 := by decide) :
    dOp P ops Q S fuel lst ⟨F.list.toArray, D⟩ w i := by
  refine E_app hi ht hz hs hb hx hy O hl hsrc h1 (by omega) hp hn (fun A' cap' w' o mm => ?_) hzs h0 h9
  rw [List.nil_append] at o
  have h := k A' cap' w'
  rw [Nat.zero_add] at o ⊢
  exact h o mm
end
end Go.Proofs.Ytjmfdmndchoplaa
