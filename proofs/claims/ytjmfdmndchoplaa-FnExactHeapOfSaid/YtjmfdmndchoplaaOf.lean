/-
  Lists of numbers that are views of heaps.
  Conditions: none.
-/
import Derived.Test.YtjmfdmndchoplaaSweep
namespace Go.Proofs.Ytjmfdmndchoplaa
open Go Go.RowKit

/-- The cells that a list of numbers tells, one after the other. -/
def parseF : Nat → List Int → Option (List LC)
  | _, [] => some []
  | _, [_] => none
  | 0, _ :: _ :: _ => none
  | f + 1, d :: n :: r => if 0 ≤ n ∧ n ≤ (r.length : Int) then (parseF f (r.drop n.toNat)).map (⟨true, d, r.take n.toNat⟩ :: ·) else none
theorem parseF_eq : ∀ (f g : Nat) (xs : List Int), xs.length ≤ f → xs.length ≤ g → parseF f xs = parseF g xs
  | _, _, [], _, _ => by simp [parseF]
  | _, _, [_], _, _ => by simp [parseF]
  | 0, _, _ :: _ :: _, h, _ => by simp at h
  | _ + 1, 0, _ :: _ :: _, _, h => by simp at h
  | f + 1, g + 1, d :: n :: r, h1, h2 => by
    simp only [List.length_cons] at h1 h2
    unfold parseF
    split
    · rw [parseF_eq f g (r.drop n.toNat) (by rw [List.length_drop]; omega) (by rw [List.length_drop]; omega)]
    · rfl
def parse (xs : List Int) : Option (List LC) := parseF xs.length xs
theorem parse_nil : parse [] = some [] := by simp [parse, parseF]
theorem parse_one (x : Int) : parse [x] = none := by simp [parse, parseF]
theorem parse_bad {d n : Int} {r : List Int} (h : ¬ (0 ≤ n ∧ n ≤ (r.length : Int))) : parse (d :: n :: r) = none := by
  unfold parse parseF
  exact if_neg h
theorem parse_cons {d : Int} {m : Nat} {r : List Int} (h : m ≤ r.length) : parse (d :: (m : Int) :: r) = (parse (r.drop m)).map (⟨true, d, r.take m⟩ :: ·) := by
  have e : (d :: (m : Int) :: r).length = (r.length + 1) + 1 := rfl
  show parseF (d :: (m : Int) :: r).length (d :: (m : Int) :: r) = _
  rw [e]
  show (if 0 ≤ (m : Int) ∧ (m : Int) ≤ (r.length : Int) then (parseF (r.length + 1) (r.drop (m : Int).toNat)).map (⟨true, d, r.take (m : Int).toNat⟩ :: ·) else none) = _
  rw [if_pos (by omega), Int.toNat_natCast]
  unfold parse
  rw [parseF_eq (r.length + 1) (r.drop m).length _ (by rw [List.length_drop]; omega) (Nat.le_refl _)]
theorem parse_ne {xs : List Int} {l : List LC} (hx : xs ≠ []) (h : parse xs = some l) : l ≠ [] := by
  match xs, hx, h with
  | [], hx, _ => exact absurd rfl hx
  | [x], _, h => rw [parse_one] at h; cases h
  | d :: n :: r, _, h =>
    by_cases hn : 0 ≤ n ∧ n ≤ (r.length : Int)
    · obtain ⟨m, rfl⟩ := Int.eq_ofNat_of_zero_le hn.1
      rw [parse_cons (by omega)] at h
      obtain ⟨l', _, e⟩ := Option.map_eq_some_iff.1 h
      rw [← e]
      simp
    · rw [parse_bad hn] at h; cases h
section
variable {xs : List Int} {p : Nat}
theorem drop_two (h : p + 1 < xs.length) : xs.drop p = xs[p] :: xs[p + 1] :: xs.drop (p + 2) := by
  rw [List.drop_eq_getElem_cons (by omega), List.drop_eq_getElem_cons h]
theorem parse_at (h : p + 1 < xs.length) {m : Nat} (hm : xs[p + 1] = (m : Int)) (hl : p + 2 + m ≤ xs.length) : parse (xs.drop p) = (parse (xs.drop (p + 2 + m))).map (⟨true, xs[p], (xs.drop (p + 2)).take m⟩ :: ·) := by
  rw [drop_two h, hm, parse_cons (by rw [List.length_drop]; omega), List.drop_drop]
theorem parse_bad_at (h : p + 1 < xs.length) (hb : ¬ (0 ≤ xs[p + 1] ∧ (p : Int) + 2 + xs[p + 1] ≤ (xs.length : Int))) : parse (xs.drop p) = none := by
  rw [drop_two h]
  exact parse_bad (fun hh => hb (by have h2 := hh.2; rw [List.length_drop] at h2; omega))
theorem parse_end_at (h : p < xs.length) (h2 : ¬ p + 1 < xs.length) : parse (xs.drop p) = none := by
  rw [List.drop_eq_getElem_cons h, List.drop_of_length_le (by omega)]
  exact parse_one _
/-- The cells cs were read, up to the place p. -/
def PI (xs : List Int) (cs : List LC) (p : Nat) : Prop := parse (xs.drop 4) = (parse (xs.drop p)).map (cs ++ ·)
theorem PI.start (xs : List Int) : PI xs [] 4 := by
  unfold PI
  cases parse (xs.drop 4) <;> simp
variable {cs : List LC}
theorem PI.next (hp : PI xs cs p) (h : p + 1 < xs.length) {m : Nat} (hm : xs[p + 1] = (m : Int)) (hl : p + 2 + m ≤ xs.length) : PI xs (cs ++ [⟨true, xs[p], (xs.drop (p + 2)).take m⟩]) (p + 2 + m) := by
  unfold PI at *
  rw [hp, parse_at h hm hl]
  cases parse (xs.drop (p + 2 + m)) <;> simp
theorem PI.bad (hp : PI xs cs p) (h : parse (xs.drop p) = none) : parse (xs.drop 4) = none := by
  unfold PI at hp
  rw [hp, h]
  rfl
theorem PI.done (hp : PI xs cs p) (h : xs.length ≤ p) : parse (xs.drop 4) = some cs := by
  unfold PI at hp
  rw [hp, List.drop_of_length_le h, parse_nil]
  simp
end
def okV (xs : List Int) (cs : List LC) : Bool := validB ⟨cs, xs.take 4⟩ && decide (viewV ⟨cs, xs.take 4⟩ = xs)
/-- The heap with this view. -/
def heapOfV (xs : List Int) : LH × Bool := if 4 ≤ xs.length then (match parse (xs.drop 4) with
  | some cs => if okV xs cs = true then (⟨cs, xs.take 4⟩, true) else (nilH, false)
  | none => (nilH, false)) else (nilH, false)
section
variable {xs : List Int} {cs : List LC} {p : Nat}
theorem heapOf_short (h : ¬ 4 ≤ xs.length) : heapOfV xs = (nilH, false) := if_neg h
theorem heapOf_none (h : parse (xs.drop 4) = none) : heapOfV xs = (nilH, false) := by
  unfold heapOfV
  rw [h]
  split <;> rfl
theorem heapOf_t (h4 : 4 ≤ xs.length) (h : parse (xs.drop 4) = some cs) (hv : validB ⟨cs, xs.take 4⟩ = true) (hw : viewV ⟨cs, xs.take 4⟩ = xs) : heapOfV xs = (⟨cs, xs.take 4⟩, true) := by
  unfold heapOfV
  rw [if_pos h4, h]
  exact if_pos (by simp [okV, hv, hw])
theorem heapOf_f1 (h : parse (xs.drop 4) = some cs) (hv : validB ⟨cs, xs.take 4⟩ = false) : heapOfV xs = (nilH, false) := by
  unfold heapOfV
  rw [h]
  split
  · exact if_neg (by simp [okV, hv])
  · rfl
theorem heapOf_f2 (h : parse (xs.drop 4) = some cs) (hw : ¬ viewV ⟨cs, xs.take 4⟩ = xs) : heapOfV xs = (nilH, false) := by
  unfold heapOfV
  rw [h]
  split
  · exact if_neg (by simp [okV, hw])
  · rfl
theorem heapOf_inv (h : ∀ cs, parse (xs.drop 4) = some cs → validB ⟨cs, xs.take 4⟩ = false) : heapOfV xs = (nilH, false) := by
  cases hp : parse (xs.drop 4) with
  | none => exact heapOf_none hp
  | some cs => exact heapOf_f1 hp (h cs hp)
theorem heapOf_many (hp : PI xs cs p) (h40 : cs.length = 40) (h : p < xs.length) : heapOfV xs = (nilH, false) := heapOf_inv fun l hl => by
  unfold PI at hp
  rw [hp] at hl
  obtain ⟨r, hr, e⟩ := Option.map_eq_some_iff.1 hl
  have hne := parse_ne (fun e0 => by have := congrArg List.length e0; rw [List.length_drop] at this; simp at this; omega) hr
  cases hv : validB ⟨l, xs.take 4⟩ with
  | false => rfl
  | true =>
    have h1 := (valid_iff.1 hv).le
    have h2 : l.length ≤ 40 := h1
    rw [← e, List.length_append] at h2
    exact absurd (List.eq_nil_of_length_eq_zero (by omega)) hne
theorem heapOf_big (hp : PI xs cs p) (h : p + 1 < xs.length) (hb : 3 < xs[p + 1]) : heapOfV xs = (nilH, false) := heapOf_inv fun l hl => by
  by_cases hk : 0 ≤ xs[p + 1] ∧ (p : Int) + 2 + xs[p + 1] ≤ (xs.length : Int)
  · obtain ⟨m, hm⟩ := Int.eq_ofNat_of_zero_le hk.1
    have hn := hp.next h hm (by omega)
    unfold PI at hn
    rw [hn] at hl
    obtain ⟨r, _, e⟩ := Option.map_eq_some_iff.1 hl
    have e2 : l[cs.length]? = some ⟨true, xs[p], (xs.drop (p + 2)).take m⟩ := by
      rw [← e, List.append_assoc, List.getElem?_append_right (Nat.le_refl _), Nat.sub_self]
      rfl
    cases hv : validB ⟨l, xs.take 4⟩ with
    | false => rfl
    | true =>
      have hlt : cs.length < l.length := by rw [← e]; simp
      have h3 := (valid_iff.1 hv).refs3 (n := cs.length) hlt
      rw [List.getElem?_eq_getElem hlt] at e2
      have e3 := Option.some.inj e2
      have h4 : (l[cs.length]).refs.length ≤ 3 := h3
      rw [e3] at h4
      simp only [List.length_take, List.length_drop] at h4
      omega
  · rw [PI.bad hp (parse_bad_at h hk)] at hl
    cases hl
theorem heapOfV_small (xs : List Int) : hsize (heapOfV xs).1 ≤ 200 := by
  unfold heapOfV
  split
  · split
    · split
      · rename_i ho
        unfold okV at ho
        rw [Bool.and_eq_true] at ho
        exact (valid_iff.1 ho.1).small
      · decide
    · decide
  · decide
theorem rsum_snoc (cs : List LC) (c : LC) : rsum (cs ++ [c]) (cs ++ [c]).length = rsum cs cs.length + c.refs.length := by
  unfold rsum
  rw [List.take_length, List.take_length, List.map_append, List.sum_append]
  simp
theorem hsize_of (cs : List LC) (rt : List Int) : hsize ⟨cs, rt⟩ = cs.length + rsum cs cs.length + rt.length := rfl
end
theorem Yl.eq {P : Program} {F : Fr} {op : Op} {v v' : Value} {w w' : World} (e : v = v') (h : Yl P F op v w w') : Yl P F op v' w w' := e ▸ h
/-- How long a slice is. -/
def slen : Value → Nat
  | .slice _ n _ => n
  | _ => 0
section
variable {Pr : Nat → Prop} {w : World} {A : Option Addr} {xs : List Int} {p n m cap : Nat}
theorem R1.head {k : Nat} (h : R1 Pr w A (ints xs)) : R1 Pr w A (ints (xs.take k)) := fun i u hu => by
  refine h i u ?_
  have hl := (List.getElem?_eq_some_iff.1 hu).1
  rw [ints_len, List.length_take] at hl
  unfold ints at hu ⊢
  rw [List.map_take, List.getElem?_take, if_pos (by omega)] at hu
  exact hu
theorem ints_drop (xs : List Int) (k : Nat) : (ints xs).drop k = ints (xs.drop k) := by simp [ints]
theorem ints_take (xs : List Int) (k : Nat) : (ints xs).take k = ints (xs.take k) := by simp [ints]
theorem R1.sub (h : R1 Pr w A (ints (xs.drop p))) (hl : p + n = xs.length) (hm : 2 + m ≤ n) (hc : n ≤ cap) : ∃ A', sliced A 2 (2 + m) cap 1 = .slice A' ((xs.drop (p + 2)).take m).length (cap - 2) ∧ R1 Pr w A' (ints ((xs.drop (p + 2)).take m)) := by
  obtain ⟨A', e, hr⟩ := h.part (cap := cap) (j := 2) (k := 2 + m) (by omega) (by omega)
  refine ⟨A', ?_, ?_⟩
  · rw [e, List.length_take, List.length_drop, show min m (xs.length - (p + 2)) = 2 + m - 2 by omega]
  · rw [ints_take, ints_drop] at hr
    rw [List.drop_take, List.drop_drop, show 2 + m - 2 = m by omega] at hr
    exact hr
theorem R1.rest {j : Nat} (h : R1 Pr w A (ints (xs.drop p))) (hl : p + n = xs.length) (hm : j ≤ n) (hc : n ≤ cap) : ∃ A', sliced A j n cap 1 = .slice A' (n - j) (cap - j) ∧ R1 Pr w A' (ints (xs.drop (p + j))) := by
  obtain ⟨A', e, hr⟩ := h.part (cap := cap) (j := j) (k := n) (by omega) (by omega)
  refine ⟨A', e, ?_⟩
  rw [ints_take, ints_drop, List.drop_take, List.drop_drop] at hr
  rw [List.take_of_length_le (by rw [List.length_drop]; omega)] at hr
  exact hr
theorem R1.subAt (h : R1 Pr w A (ints xs)) (hm : p + m ≤ xs.length) (hc : xs.length ≤ cap) : ∃ A', sliced A p (p + m) cap 1 = .slice A' ((xs.drop p).take m).length (cap - p) ∧ R1 Pr w A' (ints ((xs.drop p).take m)) := by
  obtain ⟨A', e, hr⟩ := h.part (cap := cap) (j := p) (k := p + m) (by omega) (by omega)
  refine ⟨A', ?_, ?_⟩
  · rw [e, List.length_take, List.length_drop, show min m (xs.length - p) = p + m - p by omega]
  · rw [ints_take, ints_drop, List.drop_take, show p + m - p = m by omega] at hr
    exact hr
theorem R1.elt {i : Nat} (h : R1 Pr w A (ints (xs.drop p))) (hi : p + i < xs.length) : ∃ g o, A = some ⟨g, o, none⟩ ∧ Pr g ∧ w.cell? ⟨g, o + i * 1, none⟩ = some (.int .i64 xs[p + i]) :=
  h i _ (ints_get (by rw [List.getElem?_drop]; exact List.getElem?_eq_getElem hi))
end
end Go.Proofs.Ytjmfdmndchoplaa
