/-
  A walk with a stack.
  Conditions: none.
-/
import Derived.Test.YtjmfdmndchoplaaSteps
namespace Go.Proofs.Ytjmfdmndchoplaa
open Go

theorem Bnd.meetO {N : Nat} {s rs : List Int} {ok : Int → Bool} (h : Bnd N s) (ho : ∀ x, ok x = true → 0 ≤ x ∧ x < (N : Int)) : Bnd N (Go.Proofs.Ytjmfdmndchoplaa.meet ok s rs) :=
  ⟨meet_nodup h.1, fun x hx => by
    rcases meet_mem.1 hx with hx | ⟨_, hx⟩
    · exact h.2 x hx
    · exact ho x hx⟩
theorem meet_len (ok : Int → Bool) (s rs : List Int) : s.length ≤ (meet ok s rs).length := by
  obtain ⟨t, ht⟩ := meet_pre ok rs s
  rw [ht, List.length_append]
  omega
theorem drop_snoc {s t : List Int} {x : Int} (h : s.length ≤ t.length) : (t ++ [x]).drop s.length = t.drop s.length ++ [x] := by
  rw [List.drop_append_of_le_length h]
/-- What holds of the met cells s and the stack wk. -/
structure Dfs (cs : List LC) (fr : List Int) (ok : Int → Bool) (s wk : List Int) : Prop where
  nodup : s.Nodup
  okay : ∀ x ∈ s, ok x = true
  roots : ∀ x ∈ fr, ok x = true → x ∈ s
  sub : ∀ x ∈ wk, x ∈ s
  clos : ∀ m : Nat, (m : Int) ∈ s → (m : Int) ∈ wk ∨ ∀ n : Nat, (n : Int) ∈ refsOf cs m → ok n = true → (n : Int) ∈ s
  sound : ∀ n : Nat, (n : Int) ∈ s → Rch cs fr ok n
theorem Dfs.start (cs : List LC) (fr : List Int) (ok : Int → Bool) : Dfs cs fr ok (meet ok [] fr) (meet ok [] fr) :=
  ⟨meet_nodup (by simp), fun x hx => by
    rcases meet_mem.1 hx with hx | hx
    · simp at hx
    · exact hx.2, fun x hx ho => meet_mem.2 (.inr ⟨hx, ho⟩), fun x hx => hx, fun m hm => .inl hm, fun n hn => by
    rcases meet_mem.1 hn with hn | hn
    · simp at hn
    · exact .root hn.1 hn.2⟩
theorem Dfs.next {cs : List LC} {fr : List Int} {ok : Int → Bool} {s wk : List Int} {n : Nat} (h : Dfs cs fr ok s (wk ++ [(n : Int)])) :
    Dfs cs fr ok (meet ok s (refsOf cs n)) (wk ++ (meet ok s (refsOf cs n)).drop s.length) := by
  obtain ⟨t, ht⟩ := meet_pre ok (refsOf cs n) s
  have hd : (meet ok s (refsOf cs n)).drop s.length = t := by rw [ht, List.drop_left]
  have hn : (n : Int) ∈ s := h.sub n (by simp)
  rw [hd]
  refine ⟨meet_nodup h.nodup, fun x hx => ?_, fun x hx ho => meet_mem.2 (.inl (h.roots x hx ho)), fun x hx => ?_, fun m hm => ?_, fun k hk => ?_⟩
  · rcases meet_mem.1 hx with hx | hx
    · exact h.okay x hx
    · exact hx.2
  · rcases List.mem_append.1 hx with hx | hx
    · exact meet_mem.2 (.inl (h.sub x (by simp [hx])))
    · rw [ht]; simp [hx]
  · rw [ht] at hm
    rcases List.mem_append.1 hm with hm | hm
    · rcases h.clos m hm with hw | hw
      · rcases List.mem_append.1 hw with hw | hw
        · exact .inl (by simp [hw])
        · have e : (m : Int) = n := by simpa using hw
          have e2 : m = n := by omega
          subst e2
          exact .inr fun k hk ho => meet_mem.2 (.inr ⟨hk, ho⟩)
      · exact .inr fun k hk ho => meet_mem.2 (.inl (hw k hk ho))
    · exact .inl (by simp [hm])
  · rcases meet_mem.1 hk with hk | ⟨hk, ho⟩
    · exact h.sound k hk
    · exact .step (h.sound n hn) hk ho
theorem Dfs.all {cs : List LC} {fr : List Int} {ok : Int → Bool} {s : List Int} (h : Dfs cs fr ok s []) {n : Nat} : (n : Int) ∈ s ↔ Rch cs fr ok n := by
  refine ⟨h.sound n, fun hn => ?_⟩
  induction hn with
  | root h1 h2 => exact h.roots _ h1 h2
  | step _ h1 h2 ih =>
    rcases h.clos _ ih with hw | hw
    · simp at hw
    · exact hw _ h1 h2
theorem cnt : ∀ (N : Nat) (s : List Int), Bnd N s → ((List.range N).filter (fun (i : Nat) => decide ((i : Int) ∈ s))).length = s.length
  | 0, s, h => by
    have := h.len
    simp
    omega
  | N + 1, s, h => by
    rw [List.range_succ, List.filter_append, List.length_append]
    by_cases hn : (N : Int) ∈ s
    · have ih := cnt N (s.erase (N : Int)) ⟨h.1.erase _, fun x hx => by
        have h3 := (h.1.mem_erase_iff).1 hx
        have h4 := h.2 x h3.2
        have h5 := h3.1
        omega⟩
      have e : (List.range N).filter (fun (i : Nat) => decide ((i : Int) ∈ s)) = (List.range N).filter (fun (i : Nat) => decide ((i : Int) ∈ s.erase (N : Int))) := List.filter_congr fun i hi => by
        have hi2 : i < N := by simpa using hi
        have : ¬ ((i : Int) = (N : Int)) := by omega
        simp [h.1.mem_erase_iff, this]
      have hp : 0 < s.length := List.length_pos_of_mem hn
      rw [e, ih, List.length_erase_of_mem hn]
      simp [hn]
      omega
    · have ih := cnt N s ⟨h.1, fun x hx => by
        have h4 := h.2 x hx
        have : x ≠ (N : Int) := fun e => hn (e ▸ hx)
        omega⟩
      rw [ih]
      simp [hn]
/-- How many of the first N numbers are in the word m. -/
def popc (N m : Nat) : Nat := ((List.range N).filter (fun (i : Nat) => m.testBit i)).length
theorem popc_eq {N m : Nat} {s : List Int} (hm : ∀ n : Nat, m.testBit n = decide ((n : Int) ∈ s)) (h : Bnd N s) : popc N m = s.length := by
  rw [← cnt N s h]
  unfold popc
  simp only [hm]
theorem OW.cap {Pr : Nat → Prop} {w : World} {e : TypeId} {s n cap : Nat} {A : Option Addr} {us : List Value} (h : OW Pr w e s A n cap us) : n ≤ cap := by
  rcases h.2 with ⟨_, h2, _⟩ | ⟨g, cur, _, _, _, h4, _⟩ <;> omega
def natAt (w : World) (b : Nat) : Nat := match w.cell? ⟨b, 0, none⟩ with
  | some (.int _ n) => n.toNat
  | _ => 0
def lenAt (w : World) (b : Nat) : Nat := match w.cell? ⟨b, 0, none⟩ with
  | some (.slice _ n _) => n
  | _ => 0
theorem natAt_blk {w : World} {b m : Nat} {e : TypeId} {k : IntKind} (h : Blk w b e [.int k (m : Int)].toArray) : natAt w b = m := by
  unfold natAt
  rw [h.at (i := 0) rfl]
  simp
theorem lenAt_blk {w : World} {b q cap : Nat} {A : Option Addr} {e : TypeId} (h : Blk w b e [.slice A q cap].toArray) : lenAt w b = q := by
  unfold lenAt
  rw [h.at (i := 0) (v := .slice A q cap) rfl]
end Go.Proofs.Ytjmfdmndchoplaa
