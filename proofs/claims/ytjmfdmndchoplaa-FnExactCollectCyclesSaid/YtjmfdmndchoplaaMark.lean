/-
  Marks in the memory of a heap.
  Conditions: none.
-/
import Derived.Test.YtjmfdmndchoplaaBld
import Derived.Test.YtjmfdmndchoplaaMeet
namespace Go.Proofs.Ytjmfdmndchoplaa
open Go

section
variable {Pr : Nat → Prop} {w w' : World} {e : TypeId} {cs : List LC} {rs : List (Option Addr × Nat)} {i : Nat} {c c' : LC} {r : Option Addr × Nat}
theorem set_get {α : Type} {l : List α} {i j : Nat} {x y : α} (h : (l.set i x)[j]? = some y) : (i = j ∧ y = x) ∨ (i ≠ j ∧ l[j]? = some y) := by
  rw [List.getElem?_set] at h
  by_cases hij : i = j
  · subst hij
    simp only [if_true] at h
    split at h
    · exact .inl ⟨rfl, by simpa using h.symm⟩
    · cases h
  · rw [if_neg hij] at h
    exact .inr ⟨hij, h⟩
/-- The row of one cell was written. -/
theorem ORs.mark (h : ORs Pr w e cs rs) (hc : cs[i]? = some c) (hr : rs[i]? = some r) (m : Mod (fun k => 0 < c.refs.length ∧ r.1 = some ⟨k, 0, none⟩) w w') (hn : OI Pr w' e r.1 (ints c'.refs)) (hl : c'.refs.length = c.refs.length) :
    ORs Pr w' e (cs.set i c') rs := by
  have ne : c'.refs ≠ [] → c.refs ≠ [] := fun h1 h2 => by
    rw [h2] at hl
    exact h1 (List.eq_nil_of_length_eq_zero (by simpa using hl))
  refine ⟨by rw [List.length_set]; exact h.len, fun j x q hx hq => ?_, fun j k x y q q' hx hy hq hq' hjk h1 h2 => ?_⟩
  · rcases set_get hx with ⟨rfl, rfl⟩ | ⟨hij, hx⟩
    · rw [hr] at hq
      cases hq
      exact hn
    · intro hne
      obtain ⟨b, post, hA, hp, hB⟩ := h.own j x q hx hq hne
      refine ⟨b, post, hA, hp, hB.mod m ?_⟩
      rintro ⟨h0, hb⟩
      have hx0 : x.refs ≠ [] := fun e0 => hne (by rw [e0]; rfl)
      have hc0 : c.refs ≠ [] := fun e0 => by rw [e0] at h0; simp at h0
      exact h.far j i x c q r hx hc hq hr (fun e0 => hij e0.symm) hx0 hc0 (by rw [hA, hb])
  · rcases set_get hx with ⟨e1, e2⟩ | ⟨hij, hx2⟩ <;> rcases set_get hy with ⟨e3, e4⟩ | ⟨hik, hy2⟩
    · exact absurd (e1.symm.trans e3) hjk
    · subst e1
      subst e2
      exact h.far _ k c y q q' hc hy2 hq hq' hjk (ne h1) h2
    · subst e3
      subst e4
      exact h.far j _ x c q q' hx2 hc hq hq' hjk h1 (ne h2)
    · exact h.far j k x y q q' hx2 hy2 hq hq' hjk h1 h2
/-- No row lies in a block of another type. -/
theorem ORs.off {g : Nat} {eC : TypeId} {arr : Array Value} (h : ORs Pr w e cs rs) (hc : cs[i]? = some c) (hr : rs[i]? = some r) (B : Blk w g eC arr) (hne : eC ≠ e) : ¬ (0 < c.refs.length ∧ r.1 = some ⟨g, 0, none⟩) := by
  rintro ⟨h0, hb⟩
  have hc0 : ints c.refs ≠ [] := fun e0 => by
    have := congrArg List.length e0
    rw [ints_len] at this
    simp at this
    simp [this] at h0
  obtain ⟨b, post, hA, _, hB⟩ := h.own i c r hc hr hc0
  rw [hb] at hA
  cases hA
  exact B.ne hB hne rfl
/-- A block of another type was written. -/
theorem ORs.modT {g : Nat} {eC : TypeId} {arr : Array Value} (h : ORs Pr w e cs rs) (B : Blk w g eC arr) (hne : eC ≠ e) (m : Mod (fun i => i = g) w w') : ORs Pr w' e cs rs :=
  ⟨h.len, fun j x q hx hq hn => by
    obtain ⟨b, post, hA, hp, hB⟩ := h.own j x q hx hq hn
    exact ⟨b, post, hA, hp, hB.mod m (fun e0 => by
      subst e0
      exact B.ne hB hne rfl)⟩, h.far⟩
end
/-! ### n numbers from k on -/
def iota (k : Int) (n : Nat) : List Int := (List.range n).map fun (i : Nat) => k + (i : Int)
theorem iota_len (k : Int) (n : Nat) : (iota k n).length = n := by simp [iota]
theorem iota_get {k : Int} {n i : Nat} (h : i < n) : (iota k n)[i]? = some (k + (i : Int)) := by simp [iota, h]
theorem iota_at {k : Int} {n i : Nat} (h : i < (iota k n).length) : (iota k n)[i] = k + (i : Int) := by simp [iota]
theorem iota_set {k : Int} {xs : List Int} {j : Nat} (_h : j < xs.length) : (ints (iota k j ++ xs.drop j)).take j ++ [.int .i64 (k + (j : Int))] ++ (ints (iota k j ++ xs.drop j)).drop (j + 1) = ints (iota k (j + 1) ++ xs.drop (j + 1)) := by
  have h1 : (iota k j).length = j := iota_len k j
  unfold ints
  rw [List.map_append, List.take_left' (by rw [List.length_map, h1]), ← List.drop_drop, List.drop_left' (by rw [List.length_map, h1]), List.map_append, ← List.map_drop, List.drop_drop]
  have h2 : iota k (j + 1) = iota k j ++ [k + (j : Int)] := by simp [iota, List.range_succ]
  rw [h2, List.map_append]
  rfl
/-! ### n flags from k on -/
def thirds (k : Int) (n : Nat) : List Bool := (List.range n).map fun (i : Nat) => decide ((k + (i : Int)) % 3 = 0)
theorem thirds_len (k : Int) (n : Nat) : (thirds k n).length = n := by simp [thirds]
theorem thirds_at {k : Int} {n i : Nat} (h : i < (thirds k n).length) : (thirds k n)[i] = decide ((k + (i : Int)) % 3 = 0) := by simp [thirds]
theorem thirds_set {k : Int} {xs : List Bool} {j : Nat} (_h : j < xs.length) : (bools (thirds k j ++ xs.drop j)).take j ++ [.bool (decide ((k + (j : Int)) % 3 = 0))] ++ (bools (thirds k j ++ xs.drop j)).drop (j + 1) = bools (thirds k (j + 1) ++ xs.drop (j + 1)) := by
  have h1 : (thirds k j).length = j := thirds_len k j
  unfold bools
  rw [List.map_append, List.take_left' (by rw [List.length_map, h1]), ← List.drop_drop, List.drop_left' (by rw [List.length_map, h1]), List.map_append, ← List.map_drop, List.drop_drop]
  have h2 : thirds k (j + 1) = thirds k j ++ [decide ((k + (j : Int)) % 3 = 0)] := by simp [thirds, List.range_succ]
  rw [h2, List.map_append]
  rfl
/-! ### the marks of cells -/
def kAt (k : Int) (cs : List LC) (j : Nat) : Int := k + ((2 * j + rsum cs j : Nat) : Int)
theorem kAt_zero (k : Int) (cs : List LC) : kAt k cs 0 = k := by simp [kAt, rsum]
theorem kAt_succ {k : Int} {cs : List LC} {j : Nat} (h : j < cs.length) : kAt k cs (j + 1) = kAt k cs j + 1 + 1 + (cs[j].refs.length : Int) := by
  unfold kAt
  rw [rsum_succ h]
  omega
theorem kAt_ge (k : Int) (cs : List LC) (j : Nat) : k ≤ kAt k cs j := by unfold kAt; omega
theorem kAt_le {k : Int} {cs : List LC} {j : Nat} (h : j ≤ cs.length) : kAt k cs j ≤ k + ((2 * cs.length + rsum cs cs.length : Nat) : Int) := by
  have := rsum_mono (cs := cs) h (Nat.le_refl _)
  unfold kAt
  omega
theorem hsub {cs : List LC} {j N : Nat} (h : j < cs.length) (hr : rsum cs cs.length ≤ N) : cs[j].refs.length ≤ N := by
  have h1 := rsum_succ h
  have h2 := rsum_mono (cs := cs) (k := j + 1) (n := cs.length) (by omega) (Nat.le_refl _)
  omega
def mkc (k : Int) (n : Nat) : LC := ⟨decide (k % 3 = 0), k + 1, iota (k + 1 + 1) n⟩
def mkC (k : Int) (cs : List LC) : List LC := (List.range cs.length).map fun j => mkc (kAt k cs j) (refsOf cs j).length
theorem mkC_len (k : Int) (cs : List LC) : (mkC k cs).length = cs.length := by simp [mkC]
theorem mkC_get {k : Int} {cs : List LC} {j : Nat} (h : j < cs.length) : (mkC k cs)[j]? = some (mkc (kAt k cs j) cs[j].refs.length) := by simp [mkC, h, refsOf_at h]
theorem mkC_at {k : Int} {cs : List LC} {j : Nat} (h : j < cs.length) : (mkC k cs)[j]'(by rw [mkC_len]; exact h) = mkc (kAt k cs j) cs[j].refs.length := by simp [mkC, refsOf_at h]
/-- The first j cells are marked. -/
def midC (k : Int) (cs : List LC) (j : Nat) : List LC := (mkC k cs).take j ++ cs.drop j
theorem midC_zero (k : Int) (cs : List LC) : midC k cs 0 = cs := by simp [midC]
theorem midC_all {k : Int} {cs : List LC} {j : Nat} (h : cs.length ≤ j) : midC k cs j = mkC k cs := by
  unfold midC
  rw [List.take_of_length_le (by rw [mkC_len]; exact h), List.drop_of_length_le h, List.append_nil]
theorem midC_len {k : Int} {cs : List LC} {j : Nat} (h : j ≤ cs.length) : (midC k cs j).length = cs.length := by
  unfold midC
  rw [List.length_append, List.length_take, List.length_drop, mkC_len]
  omega
theorem midC_get {k : Int} {cs : List LC} {j : Nat} (h : j < cs.length) : (midC k cs j)[j]? = some cs[j] := by
  unfold midC
  rw [List.getElem?_append_right (by rw [List.length_take, mkC_len]; omega), List.length_take, mkC_len, List.getElem?_drop]
  simp [Nat.min_eq_left (Nat.le_of_lt h), h]
theorem midC_set {k : Int} {cs : List LC} {j : Nat} (h : j < cs.length) : (midC k cs j).set j (mkc (kAt k cs j) cs[j].refs.length) = midC k cs (j + 1) := by
  apply List.ext_getElem?
  intro i
  rw [List.getElem?_set, midC_len (Nat.le_of_lt h)]
  by_cases hi : j = i
  · subst hi
    rw [if_pos rfl, if_pos h]
    unfold midC
    rw [List.getElem?_append_left (by rw [List.length_take, mkC_len]; omega), List.getElem?_take, if_pos (by omega), mkC_get h]
  · rw [if_neg hi]
    unfold midC
    by_cases h2 : i < j
    · rw [List.getElem?_append_left (by rw [List.length_take, mkC_len]; omega), List.getElem?_append_left (by rw [List.length_take, mkC_len]; omega), List.getElem?_take, List.getElem?_take, if_pos h2, if_pos (by omega)]
    · rw [List.getElem?_append_right (by rw [List.length_take, mkC_len]; omega), List.getElem?_append_right (by rw [List.length_take, mkC_len]; omega), List.length_take, List.length_take, mkC_len, List.getElem?_drop, List.getElem?_drop]
      congr 1
      omega
/-- The cells of one cell within the flat row. -/
theorem flat_one {cs : List LC} {rs : List (Option Addr × Nat)} {k : Nat} {c : LC} {r : Option Addr × Nat} {post : List Value} (hl : rs.length = cs.length) (hc : cs[k]? = some c) (hr : rs[k]? = some r) :
    flatC cs rs ++ post = flatC (cs.take k) (rs.take k) ++ [.bool c.used] ++ ([.int .i64 c.data, .slice r.1 c.refs.length r.2] ++ (flatC (cs.drop (k + 1)) (rs.drop (k + 1)) ++ post)) := by
  rw [flatC_at hl hc hr]
  simp
theorem flat_set {cs : List LC} {rs : List (Option Addr × Nat)} {k : Nat} {c : LC} {r : Option Addr × Nat} {post : List Value} (hl : rs.length = cs.length) (hk : k < cs.length) (hr : rs[k]? = some r) :
    flatC (cs.take k) (rs.take k) ++ [.bool c.used] ++ [.int .i64 c.data] ++ ([.slice r.1 c.refs.length r.2] ++ (flatC (cs.drop (k + 1)) (rs.drop (k + 1)) ++ post)) = flatC (cs.set k c) rs ++ post := by
  have h := flat_one (cs := cs.set k c) (rs := rs) (k := k) (c := c) (r := r) (post := post) (by rw [List.length_set]; exact hl) (by simp [hk]) hr
  rw [h, List.take_set_of_le (Nat.le_refl _), List.drop_set_of_lt (by omega)]
  simp
theorem flat_pre {cs : List LC} {rs : List (Option Addr × Nat)} {k : Nat} (hl : rs.length = cs.length) (hk : k ≤ cs.length) : (flatC (cs.take k) (rs.take k)).length = k * 3 := by
  rw [flatC_len (by simp [hl]), List.length_take]
  omega
def mkH (k : Int) (h : LH) : LH := ⟨mkC k h.cells, iota (kAt k h.cells h.cells.length) h.roots.length⟩
def kEnd (k : Int) (h : LH) : Int := kAt k h.cells h.cells.length + (h.roots.length : Int)
theorem kEnd_ge (k : Int) (h : LH) : k ≤ kEnd k h := by
  have := kAt_ge k h.cells h.cells.length
  unfold kEnd
  omega
theorem OI.keep {Pr S : Nat → Prop} {w w' : World} {e : TypeId} {A : Option Addr} {us : List Value} (O : OI Pr w e A us) (m : Mod S w w') (hd : ∀ b, A = some ⟨b, 0, none⟩ → us ≠ [] → ¬ S b) : OI Pr w' e A us := fun hn => by
  obtain ⟨b, post, hA, hp, hB⟩ := O hn
  exact ⟨b, post, hA, hp, hB.mod m (hd b hA hn)⟩
theorem ints_ne {xs : List Int} : ints xs ≠ [] ↔ xs ≠ [] := by simp [ints]
/-- The cells' memory is other memory than the roots'. -/
def Off (Pr : Nat → Prop) (B : Option Addr) (xs : List Int) : Nat → Prop := fun i => Pr i ∧ ¬ (B = some ⟨i, 0, none⟩ ∧ xs ≠ [])
theorem OH.split {Pr : Nat → Prop} {w : World} {eC eI : TypeId} {A B : Option Addr} {h : LH} {rs : List (Option Addr × Nat)} (o : OH Pr w eC eI A B h rs) (hne : eC ≠ eI) : OC (Off Pr B h.roots) w eC eI A h.cells rs := by
  refine ⟨⟨o.cells.rows.len, fun i c r hc hr hn => ?_, o.cells.rows.far⟩, fun hn => ?_⟩
  · obtain ⟨b, post, hA, hp, hB⟩ := o.cells.rows.own i c r hc hr hn
    refine ⟨b, post, hA, ⟨hp, ?_⟩, hB⟩
    rintro ⟨e1, e2⟩
    exact o.far i c r hc hr (ints_ne.1 hn) e2 (by rw [hA, e1])
  · obtain ⟨g, post, hA, hp, hB⟩ := o.cells.blk hn
    refine ⟨g, post, hA, ⟨hp, ?_⟩, hB⟩
    rintro ⟨e1, e2⟩
    obtain ⟨b, _, hb, _, hB2⟩ := o.roots (ints_ne.2 e2)
    rw [e1] at hb
    cases hb
    exact hB.ne hB2 hne rfl
theorem mkC_refs {k : Int} {cs : List LC} {i : Nat} {c : LC} (h : (mkC k cs)[i]? = some c) : ∃ c', cs[i]? = some c' ∧ c.refs.length = c'.refs.length := by
  have hl := (List.getElem?_eq_some_iff.1 h).1
  rw [mkC_len] at hl
  rw [mkC_get hl] at h
  cases h
  exact ⟨_, List.getElem?_eq_getElem hl, by simp [mkc, iota_len]⟩
theorem len_ne {α : Type} {xs ys : List α} (h : xs.length = ys.length) : xs ≠ [] → ys ≠ [] := by
  intro h1 h2
  subst h2
  exact h1 (List.eq_nil_of_length_eq_zero (by simpa using h))
theorem OH.join {Pr : Nat → Prop} {w w2 : World} {eC eI : TypeId} {A B : Option Addr} {h : LH} {rs : List (Option Addr × Nat)} {k : Int} (o : OH Pr w eC eI A B h rs) (c : OC (Off Pr B h.roots) w2 eC eI A (mkC k h.cells) rs) (r : OI Pr w2 eI B (ints (mkH k h).roots)) : OH Pr w2 eC eI A B (mkH k h) rs := by
  refine ⟨c.weak (fun _ h => h.1), r, fun i x q hx hq h1 h2 => ?_⟩
  obtain ⟨x', hx', hlen⟩ := mkC_refs hx
  exact o.far i x' q hx' hq (len_ne hlen h1) (len_ne (by simp [mkH, iota_len]) h2)
end Go.Proofs.Ytjmfdmndchoplaa
