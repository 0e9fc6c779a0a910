/-
  How Go's slices and structs lie in memory, as lists.
  Conditions: none.
-/
import Derived.Test.YtjmfdmndchoplaaEng
namespace Go.Proofs.Ytjmfdmndchoplaa
open Go Go.RowKit

/-- The cells from an address on are these. -/
def CellsAt (w : World) (g o : Nat) (cs : List Value) : Prop := ∀ j u, cs[j]? = some u → w.cell? ⟨g, o + j, none⟩ = some u
section
variable {w w' : World} {S : Nat → Prop} {g o : Nat} {cs : List Value}
theorem CellsAt.at {j : Nat} {u : Value} (h : CellsAt w g o cs) (hj : cs[j]? = some u) : w.cell? ⟨g, o + j, none⟩ = some u := h j u hj
theorem CellsAt.mod (h : CellsAt w g o cs) (m : Mod S w w') (hn : ¬ S g) : CellsAt w' g o cs := fun j u hu => m.cell (h j u hu) hn
theorem CellsAt.md (h : CellsAt w g o cs) (m : Mod S w w') (hn : ¬ S g := by intro h; first | omega | (dsimp only at h; omega)) : CellsAt w' g o cs := h.mod m hn
theorem CellsAt.grow (h : CellsAt w g o cs) (m : Grow w w') : CellsAt w' g o cs := h.mod m (fun h => h)
theorem Mod.cell0 (m : Grow w w') {v : Value} (hc : w.cell? ⟨g, o, none⟩ = some v) : w'.cell? ⟨g, o, none⟩ = some v := m.cell hc (fun h => h)
theorem Mod.cells0 (m : Grow w w') (h : CellsAt w g o cs) : CellsAt w' g o cs := h.grow m
theorem Blk.row {b : Nat} {e : TypeId} {arr : Array Value} (h : Blk w b e arr) (ha : arr = cs.toArray) : CellsAt w b 0 cs := fun j u hu => by
  subst ha
  rw [Nat.zero_add]
  exact h.at (by simpa using hu)
end
/-- A cell that reads v, as a fact that can be carried along. -/
def CellIs (w : World) (g o : Nat) (v : Value) : Prop := w.cell? ⟨g, o, none⟩ = some v
theorem CellIs.grow {w w' : World} {g o : Nat} {v : Value} (h : CellIs w g o v) (m : Grow w w') : CellIs w' g o v := m.cell0 h

def ints (xs : List Int) : List Value := xs.map (Value.int .i64)
def bools (bs : List Bool) : List Value := bs.map Value.bool
theorem ints_get {xs : List Int} {k : Nat} {x : Int} (h : xs[k]? = some x) : (ints xs)[k]? = some (.int .i64 x) := by simp [ints, h]
theorem bools_get {xs : List Bool} {k : Nat} {x : Bool} (h : xs[k]? = some x) : (bools xs)[k]? = some (.bool x) := by simp [bools, h]
theorem ints_len (xs : List Int) : (ints xs).length = xs.length := by simp [ints]
theorem bools_len (xs : List Bool) : (bools xs).length = xs.length := by simp [bools]
/-- A slice of one-cell elements reads as us; its block meets Pr. -/
def R1 (Pr : Nat → Prop) (w : World) (A : Option Addr) (us : List Value) : Prop :=
  ∀ k u, us[k]? = some u → ∃ g o, A = some ⟨g, o, none⟩ ∧ Pr g ∧ w.cell? ⟨g, o + k * 1, none⟩ = some u
section
variable {w w' : World} {S Pr Pr' : Nat → Prop} {A : Option Addr} {us : List Value}
theorem R1.mod (h : R1 Pr w A us) (m : Mod S w w') (hd : ∀ k, Pr k → ¬ S k) : R1 Pr w' A us := fun k u hu => by
  obtain ⟨g, o, hA, hp, hc⟩ := h k u hu
  exact ⟨g, o, hA, hp, m.cell hc (hd g hp)⟩
theorem R1.md (h : R1 Pr w A us) (m : Mod S w w') (hd : ∀ k, Pr k → ¬ S k := by intro k hk h; first | omega | (dsimp only at hk h; omega) | (dsimp only at hk; omega)) : R1 Pr w' A us := h.mod m hd
theorem R1.grow (h : R1 Pr w A us) (m : Grow w w') : R1 Pr w' A us := h.mod m (fun _ _ h => h)
theorem R1.weak (h : R1 Pr w A us) (hp : ∀ k, Pr k → Pr' k) : R1 Pr' w A us := fun k u hu => by
  obtain ⟨g, o, hA, h1, hc⟩ := h k u hu
  exact ⟨g, o, hA, hp g h1, hc⟩
theorem R1.nil (Pr : Nat → Prop) (w : World) (A : Option Addr) : R1 Pr w A [] := fun k u hu => by simp at hu
theorem R1.int {xs : List Int} (h : R1 Pr w A (ints xs)) {k : Nat} (hk : k < xs.length) : ∃ g o, A = some ⟨g, o, none⟩ ∧ Pr g ∧ w.cell? ⟨g, o + k * 1, none⟩ = some (.int .i64 xs[k]) := h k _ (ints_get (by simp [hk]))
theorem R1.bool {xs : List Bool} (h : R1 Pr w A (bools xs)) {k : Nat} (hk : k < xs.length) : ∃ g o, A = some ⟨g, o, none⟩ ∧ Pr g ∧ w.cell? ⟨g, o + k * 1, none⟩ = some (.bool xs[k]) := h k _ (bools_get (by simp [hk]))
end
/-- A cell of a heap, as data. -/
structure LC where
  used : Bool
  data : Int
  refs : List Int
/-- A heap, as data. -/
structure LH where
  cells : List LC
  roots : List Int
/-- A slice of cells of a heap reads as cs. -/
def RC (Pr : Nat → Prop) (w : World) (A : Option Addr) (cs : List LC) : Prop :=
  ∀ k c, cs[k]? = some c → ∃ g o B d, A = some ⟨g, o, none⟩ ∧ Pr g ∧ CellsAt w g (o + k * 3) [.bool c.used, .int .i64 c.data, .slice B c.refs.length d] ∧ R1 Pr w B (ints c.refs)
section
variable {w w' : World} {S Pr Pr' : Nat → Prop} {A : Option Addr} {cs : List LC}
theorem RC.mod (h : RC Pr w A cs) (m : Mod S w w') (hd : ∀ k, Pr k → ¬ S k) : RC Pr w' A cs := fun k c hc => by
  obtain ⟨g, o, B, d, hA, hp, h1, h2⟩ := h k c hc
  exact ⟨g, o, B, d, hA, hp, h1.mod m (hd g hp), h2.mod m hd⟩
theorem RC.md (h : RC Pr w A cs) (m : Mod S w w') (hd : ∀ k, Pr k → ¬ S k := by intro k hk h; first | omega | (dsimp only at hk h; omega) | (dsimp only at hk; omega)) : RC Pr w' A cs := h.mod m hd
theorem RC.grow (h : RC Pr w A cs) (m : Grow w w') : RC Pr w' A cs := h.mod m (fun _ _ h => h)
theorem RC.weak (h : RC Pr w A cs) (hp : ∀ k, Pr k → Pr' k) : RC Pr' w A cs := fun k c hc => by
  obtain ⟨g, o, B, d, hA, h0, h1, h2⟩ := h k c hc
  exact ⟨g, o, B, d, hA, hp g h0, h1, h2.weak hp⟩
theorem RC.cell (h : RC Pr w A cs) {k : Nat} (hk : k < cs.length) : ∃ g o B d, A = some ⟨g, o, none⟩ ∧ Pr g ∧ CellsAt w g (o + k * 3) [.bool cs[k].used, .int .i64 cs[k].data, .slice B cs[k].refs.length d] ∧ R1 Pr w B (ints cs[k].refs) := h k _ (by simp [hk])
end
theorem R1.below {Pr : Nat → Prop} {w : World} {A : Option Addr} {us : List Value} (h : R1 Pr w A us) : R1 (fun k => k < w.heap.size) w A us := fun k u hu => by
  obtain ⟨g, o, hA, _, hc⟩ := h k u hu
  exact ⟨g, o, hA, World.block_lt_of_cell? w _ hc, hc⟩
theorem RC.below {Pr : Nat → Prop} {w : World} {A : Option Addr} {cs : List LC} (h : RC Pr w A cs) : RC (fun k => k < w.heap.size) w A cs := fun k c hc => by
  obtain ⟨g, o, B, d, hA, _, h1, h2⟩ := h k c hc
  exact ⟨g, o, B, d, hA, World.block_lt_of_cell? w _ (h1.at (j := 0) rfl), h1, h2.below⟩
theorem nb_tt {p : Prop} [Decidable p] (h : decide p = true) : p := of_decide_eq_true h
theorem nb_tf {p : Prop} [Decidable p] (h : decide p = false) : ¬ p := of_decide_eq_false h
theorem nb_nt {p : Prop} [Decidable p] (h : (!decide p) = true) : ¬ p := by simpa using h
theorem nb_nf {p : Prop} [Decidable p] (h : (!decide p) = false) : p := by simpa using h
theorem nb_bt {b : Bool} (h : (!b) = true) : b = false := by simpa using h
theorem nb_bf {b : Bool} (h : (!b) = false) : b = true := by simpa using h
theorem dec_nat {n k : Nat} (h : k < n) : n - (k + 1) < n - k := by omega
end Go.Proofs.Ytjmfdmndchoplaa
