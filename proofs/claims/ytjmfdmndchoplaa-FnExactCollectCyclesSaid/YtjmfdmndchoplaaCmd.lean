/-
  Instructions as data: what the program and the reference compute of them.
  Conditions: none.
-/
import Derived.Test.YtjmfdmndchoplaaBld
namespace Go.Proofs.Ytjmfdmndchoplaa
open Go

structure LCmd where
  op : Int
  a : Int
  b : Int
  c : Int
deriving DecidableEq
theorem cmd_ext {x y : LCmd} (h1 : x.op = y.op) (h2 : x.a = y.a) (h3 : x.b = y.b) (h4 : x.c = y.c) : x = y := by
  cases x; cases y
  simp_all
def cvP (o : LCmd) : Prop := 0 ≤ o.a ∧ o.a ≤ 3 ∧ ((o.op = 1 ∧ 0 ≤ o.b ∧ o.b ≤ 3 ∧ 0 ≤ o.c ∧ o.c ≤ 99) ∨ ((o.op = 2 ∨ o.op = 3) ∧ 0 ≤ o.b ∧ o.b ≤ 3 ∧ 0 ≤ o.c ∧ o.c ≤ 2) ∨
  (o.op = 4 ∧ 0 ≤ o.b ∧ o.b ≤ 3 ∧ o.c = 0) ∨ (o.op = 5 ∧ o.b = 0 ∧ o.c = 0) ∨ (o.op = 6 ∧ 0 ≤ o.b ∧ o.b ≤ 99 ∧ o.c = 0))
instance (o : LCmd) : Decidable (cvP o) := by unfold cvP; infer_instance
/-- An instruction is valid. -/
def cvB (o : LCmd) : Bool := decide (cvP o)
theorem cvB_f {o : LCmd} (h : ¬ cvP o) : Value.bool false = .bool (cvB o) := by simp [cvB, h]
theorem cvB_t {o : LCmd} (h : cvP o) : Value.bool true = .bool (cvB o) := by simp [cvB, h]
theorem cvB_d {o : LCmd} {q : Prop} [Decidable q] (h : q ↔ cvP o) : Value.bool (decide q) = .bool (cvB o) := by simp [cvB, h]
/-- A program is valid. -/
def csB (l : List LCmd) : Bool := decide (l.length ≤ 40 ∧ l.all cvB = true)
def cmdC (o : LCmd) : List Value := [.int .i64 o.op, .int .i64 o.a, .int .i64 o.b, .int .i64 o.c]
/-- A slice of instructions reads as l. -/
def RO (Pr : Nat → Prop) (w : World) (A : Option Addr) (l : List LCmd) : Prop := ∀ (k : Nat) (o : LCmd), l[k]? = some o → ∃ g off, A = some ⟨g, off, none⟩ ∧ Pr g ∧ CellsAt w g (off + k * 4) (cmdC o)
section
variable {w w' : World} {S Pr Pr' : Nat → Prop} {A : Option Addr} {l : List LCmd}
theorem RO.mod (h : RO Pr w A l) (m : Mod S w w') (hd : ∀ k, Pr k → ¬ S k) : RO Pr w' A l := fun k c hc => by
  obtain ⟨g, o, hA, hp, h1⟩ := h k c hc
  exact ⟨g, o, hA, hp, h1.mod m (hd g hp)⟩
theorem RO.md (h : RO Pr w A l) (m : Mod S w w') (hd : ∀ k, Pr k → ¬ S k := by intro k hk h; first | omega | (dsimp only at hk h; omega) | (dsimp only at hk; omega)) : RO Pr w' A l := h.mod m hd
theorem RO.grow (h : RO Pr w A l) (m : Grow w w') : RO Pr w' A l := h.mod m (fun _ _ h => h)
theorem RO.weak (h : RO Pr w A l) (hp : ∀ k, Pr k → Pr' k) : RO Pr' w A l := fun k c hc => by
  obtain ⟨g, o, hA, h0, h1⟩ := h k c hc
  exact ⟨g, o, hA, hp g h0, h1⟩
theorem RO.cell (h : RO Pr w A l) {k : Nat} (hk : k < l.length) : ∃ g o, A = some ⟨g, o, none⟩ ∧ Pr g ∧ CellsAt w g (o + k * 4) [.int .i64 l[k].op, .int .i64 l[k].a, .int .i64 l[k].b, .int .i64 l[k].c] := h k _ (by simp [hk])
theorem RO.below (h : RO Pr w A l) : RO (fun k => k < w.heap.size) w A l := fun k c hc => by
  obtain ⟨g, o, hA, _, h1⟩ := h k c hc
  exact ⟨g, o, hA, World.block_lt_of_cell? w _ (h1.at (j := 0) rfl), h1⟩
end
/-- The cells of instructions, flat. -/
def flatO : List LCmd → List Value
  | [] => []
  | o :: l => cmdC o ++ flatO l
theorem flatO_len : ∀ (l : List LCmd), (flatO l).length = l.length * 4
  | [] => rfl
  | o :: l => by rw [flatO, List.length_append, flatO_len l, List.length_cons]; simp [cmdC]; omega
theorem flatO_app : ∀ (l m : List LCmd), flatO (l ++ m) = flatO l ++ flatO m
  | [], _ => rfl
  | o :: l, m => by rw [List.cons_append, flatO, flatO, flatO_app l m, List.append_assoc]
theorem flatO_at {l : List LCmd} {k : Nat} {o : LCmd} (h : l[k]? = some o) : flatO l = flatO (l.take k) ++ cmdC o ++ flatO (l.drop (k + 1)) := by
  obtain ⟨h1, e1⟩ := List.getElem?_eq_some_iff.1 h
  have a : l = l.take k ++ (o :: l.drop (k + 1)) := by
    rw [← e1, ← List.drop_eq_getElem_cons, List.take_append_drop]
  conv => lhs; rw [a]
  rw [flatO_app, flatO, List.append_assoc]
theorem flatO_snoc {l : List LCmd} {k : Nat} (h : k < l.length) {z : List Value} : flatO (l.take k) ++ [.int .i64 l[k].op, .int .i64 l[k].a, .int .i64 l[k].b, .int .i64 l[k].c] ++ zeros z (l.length - k - 1) = flatO (l.take (k + 1)) ++ zeros z (l.length - (k + 1)) := by
  rw [List.take_succ_eq_append_getElem h, flatO_app, Nat.sub_sub]
  rfl
theorem flatO_one (l : List LCmd) : ∀ u ∈ flatO l, u.oneCell' = true := by
  induction l with
  | nil => intro u hu; cases hu
  | cons o l ih =>
    intro u hu
    rw [flatO, List.mem_append] at hu
    rcases hu with hu | hu
    · simp only [cmdC, List.mem_cons, List.not_mem_nil, or_false] at hu
      rcases hu with rfl | rfl | rfl | rfl <;> rfl
    · exact ih u hu
theorem RO.of_blk {Pr : Nat → Prop} {w : World} {b : Nat} {e : TypeId} {l : List LCmd} {post : List Value} (h : Blk w b e (flatO l ++ post).toArray) (hp : Pr b) : RO Pr w (some ⟨b, 0, none⟩) l := fun k o hk => by
  refine ⟨b, 0, rfl, hp, ?_⟩
  have hl := (List.getElem?_eq_some_iff.1 hk).1
  rw [flatO_at hk, List.append_assoc] at h
  rw [Nat.zero_add]
  exact CellsAt.of_blk h (by rw [flatO_len, List.length_take]; omega)
theorem RO.of_blk0 {Pr : Nat → Prop} {w : World} {b : Nat} {e : TypeId} {l : List LCmd} (h : Blk w b e (flatO l).toArray) (hp : Pr b) : RO Pr w (some ⟨b, 0, none⟩) l := RO.of_blk (post := []) (by simpa using h) hp
/-- What the program keeps of an operation. -/
def opsL (f1 f2 g2 f3 g3 g4 g5 f6 g6 : Nat) : List Value :=
  [.int .i64 0, .int .i64 0, .nilFunc, .nilFunc,
   .int .i64 3, .int .i64 99, .func (.func f1) #[] #[], .nilFunc,
   .int .i64 3, .int .i64 2, .func (.func f2) #[] #[], .func (.func g2) #[] #[],
   .int .i64 3, .int .i64 2, .func (.func f3) #[] #[], .func (.func g3) #[] #[],
   .int .i64 3, .int .i64 0, .func (.func f1) #[] #[], .func (.func g4) #[] #[],
   .int .i64 0, .int .i64 0, .func (.func f1) #[] #[], .func (.func g5) #[] #[],
   .int .i64 99, .int .i64 0, .func (.func f6) #[] #[], .func (.func g6) #[] #[]]
theorem ops_at (f1 f2 g2 f3 g3 g4 g5 f6 g6 k : Nat) (h1 : 1 ≤ k) (h6 : k ≤ 6) : ∃ (b c : Int) (f g : Value), ((opsL f1 f2 g2 f3 g3 g4 g5 f6 g6).drop (k * 4)).take 4 = [.int .i64 b, .int .i64 c, f, g] ∧ oneL [.int .i64 b, .int .i64 c, f, g] = true ∧
    ((k = 1 ∧ b = 3 ∧ c = 99) ∨ ((k = 2 ∨ k = 3) ∧ b = 3 ∧ c = 2) ∨ (k = 4 ∧ b = 3 ∧ c = 0) ∨ (k = 5 ∧ b = 0 ∧ c = 0) ∨ (k = 6 ∧ b = 99 ∧ c = 0)) := by
  have : k = 1 ∨ k = 2 ∨ k = 3 ∨ k = 4 ∨ k = 5 ∨ k = 6 := by omega
  rcases this with rfl | rfl | rfl | rfl | rfl | rfl
  · exact ⟨3, 99, _, _, rfl, rfl, by omega⟩
  · exact ⟨3, 2, _, _, rfl, rfl, by omega⟩
  · exact ⟨3, 2, _, _, rfl, rfl, by omega⟩
  · exact ⟨3, 0, _, _, rfl, rfl, by omega⟩
  · exact ⟨0, 0, _, _, rfl, rfl, by omega⟩
  · exact ⟨99, 0, _, _, rfl, rfl, by omega⟩
end Go.Proofs.Ytjmfdmndchoplaa
