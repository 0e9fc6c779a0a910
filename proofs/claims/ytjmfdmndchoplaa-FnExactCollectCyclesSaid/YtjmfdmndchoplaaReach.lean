/-
  Which cells can be reached, and the order in which a walk meets them.
  Conditions: none.
-/
import Derived.Test.YtjmfdmndchoplaaPla
namespace Go.Proofs.Ytjmfdmndchoplaa
open Go

/-- The references of a cell. -/
def refsOf (cs : List LC) (n : Nat) : List Int := match cs[n]? with
  | some c => c.refs
  | none => []
theorem refsOf_at {cs : List LC} {n : Nat} (h : n < cs.length) : refsOf cs n = cs[n].refs := by simp [refsOf, h]
/-- n can be reached from the references fr, through cells that ok lets by. -/
inductive Rch (cs : List LC) (fr : List Int) (ok : Int → Bool) : Nat → Prop
  | root {n : Nat} : (n : Int) ∈ fr → ok n = true → Rch cs fr ok n
  | step {m n : Nat} : Rch cs fr ok m → (n : Int) ∈ refsOf cs m → ok n = true → Rch cs fr ok n
/-- Meet the references rs, in their order. -/
def meet1 (ok : Int → Bool) (s : List Int) (r : Int) : List Int := if ok r = true ∧ r ∉ s then s ++ [r] else s
def meet (ok : Int → Bool) (s : List Int) (rs : List Int) : List Int := rs.foldl (meet1 ok) s
theorem meet_succ {ok : Int → Bool} {s rs : List Int} {k : Nat} (h : k < rs.length) : meet ok s (rs.take (k + 1)) = meet1 ok (meet ok s (rs.take k)) rs[k] := by
  unfold meet
  rw [List.take_succ_eq_append_getElem h, List.foldl_append]
  rfl
theorem meet_all {ok : Int → Bool} {s rs : List Int} {k : Nat} (h : rs.length ≤ k) : meet ok s (rs.take k) = meet ok s rs := by rw [List.take_of_length_le h]
theorem meet1_mem {ok : Int → Bool} {s : List Int} {r x : Int} : x ∈ meet1 ok s r ↔ x ∈ s ∨ (x = r ∧ ok r = true) := by
  unfold meet1
  split
  · rename_i h
    simp [h.1]
  · rename_i h
    constructor
    · exact .inl
    · rintro (hx | ⟨rfl, ho⟩)
      · exact hx
      · by_cases hx : x ∈ s
        · exact hx
        · exact absurd ⟨ho, hx⟩ h
theorem meet_mem {ok : Int → Bool} : ∀ {rs s : List Int} {x : Int}, x ∈ meet ok s rs ↔ x ∈ s ∨ (x ∈ rs ∧ ok x = true)
  | [], s, x => by simp [meet]
  | r :: rs, s, x => by
    have := meet_mem (ok := ok) (rs := rs) (s := meet1 ok s r) (x := x)
    unfold meet at this ⊢
    rw [List.foldl_cons, this, meet1_mem]
    constructor
    · rintro ((h | ⟨rfl, h⟩) | ⟨h1, h2⟩)
      · exact .inl h
      · exact .inr ⟨by simp, h⟩
      · exact .inr ⟨by simp [h1], h2⟩
    · rintro (h | ⟨h1, h2⟩)
      · exact .inl (.inl h)
      · rcases List.mem_cons.1 h1 with rfl | h1
        · exact .inl (.inr ⟨rfl, h2⟩)
        · exact .inr ⟨h1, h2⟩
theorem meet1_nodup {ok : Int → Bool} {s : List Int} {r : Int} (h : s.Nodup) : (meet1 ok s r).Nodup := by
  unfold meet1
  split
  · rename_i hr
    rw [List.nodup_append]
    refine ⟨h, by simp, ?_⟩
    intro a ha b hb
    simp only [List.mem_singleton] at hb
    subst hb
    rintro rfl
    exact hr.2 ha
  · exact h
theorem meet_nodup {ok : Int → Bool} : ∀ {rs s : List Int}, s.Nodup → (meet ok s rs).Nodup
  | [], _, h => h
  | r :: rs, s, h => meet_nodup (rs := rs) (s := meet1 ok s r) (meet1_nodup h)
theorem meet1_pre (ok : Int → Bool) (s : List Int) (r : Int) : ∃ t, meet1 ok s r = s ++ t := by
  unfold meet1
  split
  · exact ⟨_, rfl⟩
  · exact ⟨[], by simp⟩
theorem meet_pre (ok : Int → Bool) : ∀ (rs s : List Int), ∃ t, meet ok s rs = s ++ t
  | [], s => ⟨[], by simp [meet]⟩
  | r :: rs, s => by
    obtain ⟨t, ht⟩ := meet1_pre ok s r
    obtain ⟨u, hu⟩ := meet_pre ok rs (meet1 ok s r)
    refine ⟨t ++ u, ?_⟩
    rw [← List.append_assoc, ← ht, ← hu]
    rfl
/-- The walk that goes on from the place i of the order s. -/
def bfs (cs : List LC) (ok : Int → Bool) : Nat → Nat → List Int → List Int
  | 0, _, s => s
  | f + 1, i, s => match s[i]? with
    | none => s
    | some x => bfs cs ok f (i + 1) (meet ok s (refsOf cs x.toNat))
theorem bfs_end {cs : List LC} {ok : Int → Bool} {f i : Nat} {s : List Int} (h : s.length ≤ i) : bfs cs ok f i s = s := by
  cases f with
  | zero => rfl
  | succ f => simp [bfs, List.getElem?_eq_none h]
theorem bfs_step {cs : List LC} {ok : Int → Bool} {f i n : Nat} {s : List Int} (h : s[i]? = some (n : Int)) : bfs cs ok (f + 1) i s = bfs cs ok f (i + 1) (meet ok s (refsOf cs n)) := by
  simp [bfs, h]
/-- The cells in the order of a walk in rounds. -/
def orderL (cs : List LC) (fr : List Int) (ok : Int → Bool) : List Int := bfs cs ok cs.length 0 (meet ok [] fr)
theorem nodup_bound : ∀ (N : Nat) (s : List Int), s.Nodup → (∀ x ∈ s, 0 ≤ x ∧ x < (N : Int)) → s.length ≤ N
  | 0, s, _, h => by
    cases s with
    | nil => simp
    | cons a l => have := h a (by simp); omega
  | N + 1, s, hd, h => by
    have h2 := nodup_bound N (s.erase (N : Int)) (hd.erase _) (fun x hx => by
      have h3 := (hd.mem_erase_iff).1 hx
      have h4 := h x h3.2
      have h5 := h3.1
      omega)
    rw [List.length_erase] at h2
    split at h2 <;> omega
/-- What holds of the order while the walk runs, at the place i. -/
structure Ord (cs : List LC) (fr : List Int) (ok : Int → Bool) (i : Nat) (s : List Int) : Prop where
  nodup : s.Nodup
  okay : ∀ x ∈ s, ok x = true
  le : i ≤ s.length
  roots : ∀ x ∈ fr, ok x = true → x ∈ s
  clos : ∀ (j m n : Nat), j < i → s[j]? = some (m : Int) → (n : Int) ∈ refsOf cs m → ok n = true → (n : Int) ∈ s
  sound : ∀ n : Nat, (n : Int) ∈ s → Rch cs fr ok n
theorem Ord.start (cs : List LC) (fr : List Int) (ok : Int → Bool) : Ord cs fr ok 0 (meet ok [] fr) :=
  ⟨meet_nodup (by simp), fun x hx => by
    rw [meet_mem] at hx
    rcases hx with hx | hx
    · simp at hx
    · exact hx.2, Nat.zero_le _, fun x hx ho => meet_mem.2 (.inr ⟨hx, ho⟩), fun j m n hj => by omega, fun n hn => by
    rw [meet_mem] at hn
    rcases hn with hn | hn
    · simp at hn
    · exact .root hn.1 hn.2⟩
theorem Ord.next {cs : List LC} {fr : List Int} {ok : Int → Bool} {i n : Nat} {s : List Int} (h : Ord cs fr ok i s) (hi : s[i]? = some (n : Int)) : Ord cs fr ok (i + 1) (meet ok s (refsOf cs n)) := by
  obtain ⟨t, ht⟩ := meet_pre ok (refsOf cs n) s
  have hlt := (List.getElem?_eq_some_iff.1 hi).1
  refine ⟨meet_nodup h.nodup, fun x hx => ?_, ?_, fun x hx ho => ?_, fun j m k hj hm hk ho => ?_, fun k hk => ?_⟩
  · rcases meet_mem.1 hx with hx | hx
    · exact h.okay x hx
    · exact hx.2
  · rw [ht, List.length_append]; omega
  · exact meet_mem.2 (.inl (h.roots x hx ho))
  · rw [ht, List.getElem?_append_left (by omega)] at hm
    by_cases hj2 : j < i
    · exact meet_mem.2 (.inl (h.clos j m k hj2 hm hk ho))
    · have : j = i := by omega
      subst this
      rw [hi] at hm
      have : n = m := by
        have hm2 : (n : Int) = m := by simpa using hm
        omega
      subst this
      exact meet_mem.2 (.inr ⟨hk, ho⟩)
  · rcases meet_mem.1 hk with hk | ⟨hk, ho⟩
    · exact h.sound k hk
    · exact .step (h.sound n (List.mem_of_getElem? hi)) hk ho
theorem Ord.bound {cs : List LC} {fr : List Int} {ok : Int → Bool} {i : Nat} {s : List Int} (h : Ord cs fr ok i s) (ho : ∀ x, ok x = true → 0 ≤ x) (hlt : ∀ x ∈ s, x < (cs.length : Int)) : s.length ≤ cs.length :=
  nodup_bound _ _ h.nodup fun x hx => ⟨ho x (h.okay x hx), hlt x hx⟩
/-- Every reference that ok lets by leads to a cell. -/
def Leads (cs : List LC) (fr : List Int) (ok : Int → Bool) : Prop := (∀ x ∈ fr, ok x = true → 0 ≤ x ∧ x < (cs.length : Int)) ∧ ∀ m, ∀ x ∈ refsOf cs m, ok x = true → 0 ≤ x ∧ x < (cs.length : Int)
theorem Rch.lt {cs : List LC} {fr : List Int} {ok : Int → Bool} (hl : Leads cs fr ok) {n : Nat} (h : Rch cs fr ok n) : n < cs.length := by
  cases h with
  | root h1 h2 => have := hl.1 _ h1 h2; omega
  | step _ h1 h2 => have := hl.2 _ _ h1 h2; omega
theorem Ord.all {cs : List LC} {fr : List Int} {ok : Int → Bool} {i : Nat} {s : List Int} (h : Ord cs fr ok i s) (hi : s.length ≤ i) {n : Nat} (hn : Rch cs fr ok n) : (n : Int) ∈ s := by
  induction hn with
  | root h1 h2 => exact h.roots _ h1 h2
  | step _ h1 h2 ih =>
    obtain ⟨j, hj⟩ := List.getElem?_of_mem ih
    have := (List.getElem?_eq_some_iff.1 hj).1
    exact h.clos j _ _ (by omega) hj h1 h2
theorem Ord.mem_lt {cs : List LC} {fr : List Int} {ok : Int → Bool} {i : Nat} {s : List Int} (h : Ord cs fr ok i s) (hl : Leads cs fr ok) (ho : ∀ x, ok x = true → 0 ≤ x) {x : Int} (hx : x ∈ s) : 0 ≤ x ∧ x < (cs.length : Int) := by
  have h0 := ho x (h.okay x hx)
  obtain ⟨n, rfl⟩ := Int.eq_ofNat_of_zero_le h0
  have := (h.sound n hx).lt hl
  omega
end Go.Proofs.Ytjmfdmndchoplaa
