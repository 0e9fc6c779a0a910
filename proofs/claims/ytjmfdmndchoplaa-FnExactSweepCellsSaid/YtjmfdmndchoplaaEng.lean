/-
  The step engine: one lemma for each kind of operation of the model, so that a walk is a list of 'refine'.
  Conditions: none; the lemmas speak of any program.
-/
import Derived.Tactics
import Derived.Below
import Derived.OrdersHeld
import Derived.KernelRfl
import Derived.LoopTactic
import Derived.Laws.MakeOwn
import Derived.Laws.Entries
import Derived.Laws.Slices
import Derived.Laws.Shifts
import Derived.Shelf.Abstract
import Derived.RowKit
namespace Go.Proofs.Ytjmfdmndchoplaa
open Go Go.RowKit

/-! ### worlds -/
/-- Outside of the blocks of S nothing that w has is other in w'. -/
structure Mod (S : Nat → Prop) (w w' : World) : Prop where
  os : w'.os = w.os
  tape : w'.tape = w.tape
  output : w'.output = w.output
  size : w.heap.size ≤ w'.heap.size
  block : ∀ k, k < w.heap.size → ¬ S k → w'.heap[k]? = w.heap[k]?
def No : Nat → Prop := fun _ => False
/-- w' is w with new blocks. -/
abbrev Grow (w w' : World) : Prop := Mod No w w'

theorem Mod.refl (S : Nat → Prop) (w : World) : Mod S w w := ⟨rfl, rfl, rfl, Nat.le_refl _, fun _ _ _ => rfl⟩
theorem Mod.trans' {S S' T : Nat → Prop} {a b c : World} (h : Mod S a b) (k : Mod S' b c) (h1 : ∀ i, S i → i < a.heap.size → T i) (h2 : ∀ i, S' i → i < a.heap.size → T i) : Mod T a c :=
  ⟨k.os.trans h.os, k.tape.trans h.tape, k.output.trans h.output, Nat.le_trans h.size k.size, fun i hi hn =>
    (k.block i (Nat.lt_of_lt_of_le hi h.size) (fun hs => hn (h2 i hs hi))).trans (h.block i hi (fun hs => hn (h1 i hs hi)))⟩
theorem Mod.trans {S : Nat → Prop} {a b c : World} (h : Mod S a b) (k : Mod S b c) : Mod S a c := h.trans' k (fun _ h _ => h) (fun _ h _ => h)
theorem Mod.weak {S T : Nat → Prop} {a b : World} (h : Mod S a b) (hs : ∀ i, S i → i < a.heap.size → T i) : Mod T a b :=
  ⟨h.os, h.tape, h.output, h.size, fun i hi hn => h.block i hi (fun x => hn (hs i x hi))⟩
theorem Mod.of_grow {S : Nat → Prop} {a b : World} (h : Grow a b) : Mod S a b := h.weak (fun _ h _ => h.elim)
theorem Mod.grow {S : Nat → Prop} {a b c : World} (h : Mod S a b) (g : Grow b c) : Mod S a c := h.trans (Mod.of_grow g)
/-- Changes that lie above all of a's blocks are no changes of a. -/
theorem Mod.above {S S' : Nat → Prop} {a b c : World} (h : Mod S a b) (k : Mod S' b c) (hs : ∀ i, S' i → a.heap.size ≤ i) : Mod S a c :=
  h.trans' k (fun _ h _ => h) (fun i h hi => absurd (hs i h) (by omega))
theorem Mod.abv {S S' : Nat → Prop} {a b c : World} (h : Mod S a b) (k : Mod S' b c) (hs : ∀ i, S' i → a.heap.size ≤ i := by intro i h; first | omega | (dsimp only at h; omega)) : Mod S a c := h.above k hs
theorem Mod.trn {S S' : Nat → Prop} {a b c : World} (h : Mod S a b) (k : Mod S' b c) (h2 : ∀ i, S' i → i < a.heap.size → S i := by intro i h _; first | exact h | omega | (dsimp only at h ⊢; omega) | (subst h; rfl) | (subst h; exact ⟨by omega, rfl⟩)) : Mod S a c := h.trans' k (fun _ h _ => h) h2
theorem Mod.below {w w' : World} (h : Grow w w') : Below w.heap.size w w' := ⟨h.os, h.tape, h.output, h.size, fun k hk => h.block k hk (fun h => h)⟩
theorem Mod.of_below {w w' : World} (h : Below w.heap.size w w') : Grow w w' := ⟨h.os, h.tape, h.output, h.size, fun k hk _ => h.block k hk⟩
theorem grow_drew (w : World) : Grow w w.drew := ⟨rfl, rfl, rfl, Nat.le_refl _, fun _ _ _ => rfl⟩
theorem grow_alloc (w : World) (o : Obj) : Grow w (w.alloc o) := ⟨rfl, rfl, rfl, by simp, fun k hk _ => Below.heap_alloc w o k hk⟩
theorem mod_setCell (w : World) (a : Addr) (u : Value) : Mod (· = a.block) w (w.setCell a u) :=
  ⟨rfl, rfl, rfl, by simp, fun k _ hn => Below.heap_setCell w a u k hn⟩
theorem mod_grown {w w' : World} {row : Option Nat} (h : w.grownBy w' row) : Mod (fun k => some k = row) w w' := ⟨h.os, h.tape, h.output, h.size, h.block⟩

/-- A cell of an old block. -/
theorem Mod.cell {S : Nat → Prop} {w w' : World} (h : Mod S w w') {g o : Nat} {v : Value} (hc : w.cell? ⟨g, o, none⟩ = some v) (hn : ¬ S g) : w'.cell? ⟨g, o, none⟩ = some v := by
  have hlt := World.block_lt_of_cell? w ⟨g, o, none⟩ hc
  rw [World.cell?_of_block (w := w) (h.block g hlt hn)]
  exact hc

/-- Block b is known whole. -/
def Blk (w : World) (b : Nat) (e : TypeId) (cs : Array Value) : Prop := w.heap[b]? = some (.cells cs e (0, 0))
theorem Blk.lt {w : World} {b : Nat} {e : TypeId} {cs : Array Value} (h : Blk w b e cs) : b < w.heap.size := by
  rcases Nat.lt_or_ge b w.heap.size with hlt | hge
  · exact hlt
  · unfold Blk at h
    rw [Array.getElem?_eq_none hge] at h
    cases h
theorem Blk.mod {S : Nat → Prop} {w w' : World} {b : Nat} {e : TypeId} {cs : Array Value} (h : Blk w b e cs) (m : Mod S w w') (hn : ¬ S b) : Blk w' b e cs := (m.block b h.lt hn).trans h
theorem Blk.md {S : Nat → Prop} {w w' : World} {b : Nat} {e : TypeId} {cs : Array Value} (h : Blk w b e cs) (m : Mod S w w') (hn : ¬ S b := by intro h; first | omega | (dsimp only at h; omega)) : Blk w' b e cs := h.mod m hn
theorem Blk.grow {w w' : World} {b : Nat} {e : TypeId} {cs : Array Value} (h : Blk w b e cs) (m : Grow w w') : Blk w' b e cs := h.mod m (fun h => h)
theorem Blk.at {w : World} {b : Nat} {e : TypeId} {cs : Array Value} (h : Blk w b e cs) {i : Nat} {v : Value} (hi : cs[i]? = some v) : w.cell? ⟨b, i, none⟩ = some v := by
  unfold Blk at h
  simp [World.cell?, h, hi]
theorem Blk.fr {w : World} {b : Nat} {e : TypeId} {cs : Array Value} (h : Blk w b e cs) (i : Nat) : w.frozen? ⟨b, i, none⟩ = false := by
  unfold Blk at h
  simp [World.frozen?, h]
theorem Blk.new (w : World) (e : TypeId) (cs : Array Value) : Blk (w.alloc (.cells cs e)) w.heap.size e cs := by
  unfold Blk World.alloc
  simp
theorem Blk.ne {w : World} {b b' : Nat} {e e' : TypeId} {cs cs' : Array Value} (h : Blk w b e cs) (h' : Blk w b' e' cs') (hne : e ≠ e') : b ≠ b' := by
  rintro rfl
  unfold Blk at h h'
  rw [h] at h'
  injection h' with h'
  injection h' with _ ht
  exact hne ht
theorem Blk.set {w : World} {b : Nat} {e : TypeId} {cs : Array Value} (h : Blk w b e cs) (i : Nat) (u : Value) : Blk (w.setCell ⟨b, i, none⟩ u) b e (cs.setIfInBounds i u) := by
  unfold Blk at *
  simp [World.setCell, Array.getElem?_modify, h]

/-! ### frames -/
/-- A frame: a list of at least N values, and what was written to it since, the last first. -/
structure Fr where
  base : List Value
  n : Nat
  ups : List (Nat × Value)
def lookU (L : List Value) (n : Nat) : List (Nat × Value) → Nat → Option Value
  | [], t => L[t]?
  | (d, v) :: U, t => bif Nat.beq d t then (bif Nat.ble (d + 1) n then some v else none) else lookU L n U t
def listU (L : List Value) : List (Nat × Value) → List Value
  | [] => L
  | (d, v) :: U => (listU L U).set d v
def Fr.get (F : Fr) (t : Nat) : Option Value := lookU F.base F.n F.ups t
def Fr.list (F : Fr) : List Value := listU (F.base ++ List.replicate (F.n - F.base.length) undef) F.ups
@[reducible] def Fr.put (F : Fr) (d : Nat) (v : Value) : Fr := ⟨F.base, F.n, (d, v) :: F.ups⟩
theorem listU_len (L : List Value) : ∀ U, (listU L U).length = L.length
  | [] => rfl
  | (d, v) :: U => by rw [listU, List.length_set, listU_len L U]
theorem look_list {L : List Value} {n : Nat} : ∀ {U : List (Nat × Value)} {t : Nat} {v : Value}, lookU L n U t = some v → (listU (L ++ List.replicate (n - L.length) undef) U)[t]? = some v
  | [], t, v, h => by
    have h' : L[t]? = some v := h
    obtain ⟨hl, he⟩ := List.getElem?_eq_some_iff.1 h'
    rw [listU, List.getElem?_append_left hl]
    exact h'
  | (d, u) :: U, t, v, h => by
    unfold lookU at h
    rw [listU]
    cases hb : Nat.beq d t with
    | true =>
      have e : d = t := Nat.eq_of_beq_eq_true hb
      rw [hb] at h
      cases hn : Nat.ble (d + 1) n with
      | false => rw [hn] at h; cases h
      | true =>
        rw [hn] at h
        have hv : u = v := by simpa using h
        have hle := Nat.le_of_ble_eq_true hn
        rw [← e, List.getElem?_set_self (by rw [listU_len]; simp; omega), hv]
    | false =>
      have e : d ≠ t := Nat.ne_of_beq_eq_false hb
      rw [hb] at h
      rw [List.getElem?_set_ne e]
      exact look_list h
theorem Fr.at {F : Fr} {t : Nat} {v : Value} (h : F.get t = some v) : F.list[t]? = some v := look_list h
theorem Fr.list_put (F : Fr) (d : Nat) (v : Value) : (F.put d v).list = F.list.set d v := rfl
/-- The frame's values, one after the other. -/
def tabU (F : Fr) : Nat → Nat → List (Option Value)
  | _, 0 => []
  | k, n + 1 => F.get k :: tabU F (k + 1) n
theorem tab_get {F : Fr} : ∀ (n k : Nat) (L' : List Value), tabU F k n = L'.map some → L'.length = n ∧ ∀ i, i < n → F.get (k + i) = L'[i]?
  | 0, k, L', h => by
    cases L' with
    | nil => exact ⟨rfl, fun i hi => absurd hi (by omega)⟩
    | cons a l => simp [tabU] at h
  | n + 1, k, L', h => by
    cases L' with
    | nil => simp [tabU] at h
    | cons a l =>
      simp only [tabU, List.map_cons, List.cons.injEq] at h
      obtain ⟨h1, h2⟩ := tab_get n (k + 1) l h.2
      refine ⟨by simp [h1], fun i hi => ?_⟩
      cases i with
      | zero => simpa using h.1
      | succ i =>
        rw [show k + (i + 1) = k + 1 + i by omega, h2 i (by omega)]
        simp
theorem tab_list {F : Fr} {L' : List Value} (hl : F.list.length = F.n) (h : tabU F 0 F.n = L'.map some) : F.list = L' := by
  obtain ⟨h1, h2⟩ := tab_get F.n 0 L' h
  apply List.ext_getElem?
  intro i
  by_cases hi : i < F.n
  · have h3 := h2 i hi
    have hv : L'[i]? = some (L'[i]'(by omega)) := List.getElem?_eq_getElem (by omega)
    rw [Nat.zero_add, hv] at h3
    rw [F.at h3, hv]
  · rw [List.getElem?_eq_none (by omega), List.getElem?_eq_none (by omega)]
theorem list_len {F : Fr} (h : F.base.length = F.n) : F.list.length = F.n := by
  unfold Fr.list
  rw [listU_len]
  simp
  omega
/-- All of the values, if each is there. -/
def unO : List (Option Value) → Option (List Value)
  | [] => some []
  | none :: _ => none
  | some v :: l => match unO l with
    | some vs => some (v :: vs)
    | none => none
theorem unO_map : ∀ {l : List (Option Value)} {L : List Value}, unO l = some L → l = L.map some
  | [], L, h => by
    simp only [unO, Option.some.injEq] at h
    subst h
    rfl
  | none :: _, _, h => by cases h
  | some v :: l, L, h => by
    unfold unO at h
    split at h
    · rename_i vs hv
      simp only [Option.some.injEq] at h
      subst h
      rw [unO_map hv]
      rfl
    · cases h
def ev (F : Fr) : Operand → Option Value
  | .tmp t => F.get t
  | .const v => some v
  | .global g => some (.pointer (some ⟨g, 0, none⟩))
  | .func f => some (.func (.func f) #[] #[])
def evs (F : Fr) : List Operand → Option (List Value)
  | [] => some []
  | x :: xs => match ev F x, evs F xs with
    | some v, some vs => some (v :: vs)
    | _, _ => none
def evp (F : Fr) : List (Nat × Operand) → Option (List (Nat × Value))
  | [] => some []
  | (i, x) :: xs => match ev F x, evp F xs with
    | some v, some vs => some ((i, v) :: vs)
    | _, _ => none
theorem ev_eval {F : Fr} {D : List Deferred} {x : Operand} {v : Value} (h : ev F x = some v) : (Act.mk F.list.toArray D).eval x = v := by
  cases x with
  | tmp t =>
    have := Fr.at (F := F) h
    simp [Act.eval, Array.getD_eq_getD_getElem?, this]
  | const u => simpa [ev, Act.eval] using h
  | global g => simpa [ev, Act.eval] using h
  | func f => simpa [ev, Act.eval] using h
theorem evs_eval {F : Fr} {D : List Deferred} : ∀ {xs : List Operand} {vs : List Value}, evs F xs = some vs → xs.map (Act.mk F.list.toArray D).eval = vs
  | [], _, h => by simpa [evs] using h
  | x :: xs, vs, h => by
    unfold evs at h
    split at h
    · rename_i v us h1 h2
      simp only [Option.some.injEq] at h
      subst h
      simp [ev_eval h1, evs_eval h2]
    · cases h
theorem evp_eval {F : Fr} {D : List Deferred} : ∀ {xs : List (Nat × Operand)} {vs : List (Nat × Value)}, evp F xs = some vs → xs.map (fun p => (p.1, (Act.mk F.list.toArray D).eval p.2)) = vs
  | [], _, h => by simpa [evp] using h
  | (i, x) :: xs, vs, h => by
    unfold evp at h
    split at h
    · rename_i v us h1 h2
      simp only [Option.some.injEq] at h
      subst h
      simp [ev_eval h1, evp_eval h2]
    · cases h
theorem put_some (F : Fr) (D : List Deferred) (d : Tmp) (v : Value) : (Act.mk F.list.toArray D).put (some d) v = ⟨(F.put d v).list.toArray, D⟩ := by simp [Act.put, Fr.list_put]
/-- A frame that is written out. -/
def evL (L : List Value) : Operand → Option Value
  | .tmp t => L[t]?
  | .const v => some v
  | _ => none
theorem evL_eval {L : List Value} {D : List Deferred} {x : Operand} {v : Value} (h : evL L x = some v) : (Act.mk L.toArray D).eval x = v := by
  cases x <;> simp_all [evL, Act.eval, Array.getD_eq_getD_getElem?]

/-- The operation yields v, and the world becomes w'. -/
def Yl (P : Program) (F : Fr) (op : Op) (v : Value) (w w' : World) : Prop :=
  ∀ (D : List Deferred) (dst : Option Tmp) (ty : TypeId) (pos : String) (af : Array Edge) (g : Option (Nat × Bool)),
    (execOp (Act.mk F.list.toArray D).eval (Oper.mk dst op ty pos af g)).run P w = .ok (.value v) w'
/-- The operation (a store) does its work. -/
def Ys (P : Program) (F : Fr) (op : Op) (w w' : World) : Prop :=
  ∀ (D : List Deferred) (dst : Option Tmp) (ty : TypeId) (pos : String) (af : Array Edge) (g : Option (Nat × Bool)),
    (execOp (Act.mk F.list.toArray D).eval (Oper.mk dst op ty pos af g)).run P w = .ok .skip w'

section steps
variable {P : Program} {ops : Array Oper} {Q : Exit → Act → World → Prop} {rest : List Oper} {F : Fr} {D : List Deferred} {w : World}
  {d : Tmp} {op : Op} {ty : TypeId} {pos : String} {af : Array Edge}

theorem S_val {v : Value} {w' : World} (h : Yl P F op v w w') (k : wpList P ops Q rest ⟨(F.put d v).list.toArray, D⟩ w') : wpList P ops Q (⟨some d, op, ty, pos, af, none⟩ :: rest) ⟨F.list.toArray, D⟩ w := by
  refine wpList_plain rfl fun K hK => ?_
  unfold Oper.wp
  rw [h]
  exact hK _ _ (by rw [put_some]; exact k)
theorem S_val0 {v : Value} {w' : World} (h : Yl P F op v w w') (k : wpList P ops Q rest ⟨F.list.toArray, D⟩ w') : wpList P ops Q (⟨none, op, ty, pos, af, none⟩ :: rest) ⟨F.list.toArray, D⟩ w := by
  refine wpList_plain rfl fun K hK => ?_
  unfold Oper.wp
  rw [h]
  exact hK _ _ k
theorem S_st {w' : World} (h : Ys P F op w w') (k : wpList P ops Q rest ⟨F.list.toArray, D⟩ w') : wpList P ops Q (⟨none, op, ty, pos, af, none⟩ :: rest) ⟨F.list.toArray, D⟩ w := by
  refine wpList_plain rfl fun K hK => ?_
  unfold Oper.wp
  rw [h]
  exact hK _ _ k
/-- A guarded operation whose guard says yes. -/
theorem S_on {dst : Option Tmp} {j : Nat} {b : Bool} {t : Tmp} (hj : (ops[j]?).bind (·.dst) = some t) (hv : F.get t = some (.bool b))
    (k : wpList P ops Q (⟨dst, op, ty, pos, af, none⟩ :: rest) ⟨F.list.toArray, D⟩ w) : wpList P ops Q (⟨dst, op, ty, pos, af, some (j, b)⟩ :: rest) ⟨F.list.toArray, D⟩ w := by
  have hy : yielded ops F.list.toArray j = some b := by
    unfold yielded
    rw [hj]
    simp [F.at hv]
  unfold wpList at *
  rw [if_pos (by simp [Region.wanted])] at k
  rw [if_pos (by simp [Region.wanted, hy])]
  exact k
theorem S_off {j : Nat} {b : Bool} {t : Tmp} (hj : (ops[j]?).bind (·.dst) = some t) (hv : F.get t = some (.bool (!b)))
    (k : wpList P ops Q rest ⟨(F.put d undef).list.toArray, D⟩ w) : wpList P ops Q (⟨some d, op, ty, pos, af, some (j, b)⟩ :: rest) ⟨F.list.toArray, D⟩ w := by
  have hy : yielded ops F.list.toArray j = some (!b) := by
    unfold yielded
    rw [hj]
    simp [F.at hv]
  unfold wpList
  have : ((some (!b) : Option Bool) == some b) = false := by cases b <;> rfl
  simp only [Region.wanted, hy, this, Bool.false_eq_true, if_false]
  rw [put_some]
  exact k
theorem S_offU {j : Nat} {b : Bool} {t : Tmp} (hj : (ops[j]?).bind (·.dst) = some t) (hv : F.get t = some undef)
    (k : wpList P ops Q rest ⟨(F.put d undef).list.toArray, D⟩ w) : wpList P ops Q (⟨some d, op, ty, pos, af, some (j, b)⟩ :: rest) ⟨F.list.toArray, D⟩ w := by
  have hy : yielded ops F.list.toArray j = none := by
    unfold yielded
    rw [hj]
    simp [F.at hv, undef]
  unfold wpList
  simp only [Region.wanted, hy]
  rw [put_some]
  exact k
theorem set_self {L : List Value} {t : Tmp} {v : Value} (hv : L[t]? = some v) : L.set t v = L := by
  apply List.ext_getElem?
  intro i
  rw [List.getElem?_set]
  by_cases h : t = i
  · subst h
    obtain ⟨hl, he⟩ := List.getElem?_eq_some_iff.1 hv
    simp [hl, he]
  · simp [h]
/-- A guard that is not decided: both ways, the slot's value written out. -/
theorem S_g {l : List Oper} (t : Tmp) {b : Bool} (hv : F.get t = some (.bool b)) (ht : b = true → wpList P ops Q l ⟨(F.put t (.bool true)).list.toArray, D⟩ w) (hf : b = false → wpList P ops Q l ⟨(F.put t (.bool false)).list.toArray, D⟩ w) :
    wpList P ops Q l ⟨F.list.toArray, D⟩ w := by
  have e := set_self (F.at hv)
  cases b
  · have := hf rfl
    rwa [Fr.list_put, e] at this
  · have := ht rfl
    rwa [Fr.list_put, e] at this
theorem S_beg {l : List Oper} {L : List Value} (N : Nat) (hN : L.length = N) (k : wpList P ops Q l ⟨(Fr.mk L N []).list.toArray, D⟩ w) : wpList P ops Q l ⟨L.toArray, D⟩ w := by
  subst hN
  simpa [Fr.list, listU] using k
theorem S_nil {L' : List Value} (hN : F.base.length = F.n) (h : tabU F 0 F.n = L'.map some) (k : Q .normal ⟨L'.toArray, D⟩ w) : wpList P ops Q [] ⟨F.list.toArray, D⟩ w := by
  rw [tab_list (list_len hN) h]
  exact k
theorem S_nl {L' : List Value} (hN : F.base.length = F.n) (h : unO (tabU F 0 F.n) = some L') (k : Q .normal ⟨L'.toArray, D⟩ w) : wpList P ops Q [] ⟨F.list.toArray, D⟩ w := S_nil hN (unO_map h) k
theorem Sb {id : Nat} {l : List Oper} {L : List Value} (N : Nat) (hN : L.length = N) (k : wpList P l.toArray Q l ⟨(Fr.mk L N []).list.toArray, D⟩ w) : (Code.region id l.toArray false).wp P Q ⟨L.toArray, D⟩ w := wp_region_lit (S_beg N hN k)
/-- The contract's post: it returns a value of which R holds. -/
def Ret (R : Value → World → Prop) : Ending → World → Prop := fun e w => ∃ v, e = .returned v ∧ R v w
theorem S_call {f : FuncId} {xs : List Operand} {ats : Array TypeId} {vs : List Value} {R : Value → World → Prop} (ha : evs F xs = some vs) (hf : Enters P f) (hc : Calls P f vs.toArray w (Ret R))
    (k : ∀ v w', R v w' → wpList P ops Q rest ⟨(F.put d v).list.toArray, D⟩ w') :
    wpList P ops Q (⟨some d, .call ⟨.value (.func f), xs.toArray, ats⟩, ty, pos, af, none⟩ :: rest) ⟨F.list.toArray, D⟩ w := by
  refine wpList_plain rfl fun K hK => ?_
  have hm := evs_eval (D := D) ha
  unfold Oper.wp execOp
  simp only [resolve, Deferred.ofValue, Act.eval, Sem.run_bind, Sem.run_pure, Result.andThen_ok, invoke, Array.append_empty, List.map_toArray]
  rw [show (xs.map (Act.mk F.list.toArray D).eval) = vs from hm]
  simp only [Array.empty_append, hf _ _, Oper.upon]
  refine hc.mono fun e w' ⟨v, he, hr⟩ => ?_
  subst he
  exact hK _ _ (by rw [put_some]; exact k v w' hr)
/-- A call of a closure. -/
theorem S_callc {f : FuncId} {x : Operand} {xs : List Operand} {ats : Array TypeId} {vs cs : List Value} {R : Value → World → Prop} (hx : ev F x = some (.func (.func f) #[] cs.toArray)) (ha : evs F xs = some vs) (hf : Enters P f)
    (hc : Calls P f (vs ++ cs).toArray w (Ret R))
    (k : ∀ v w', R v w' → wpList P ops Q rest ⟨(F.put d v).list.toArray, D⟩ w') :
    wpList P ops Q (⟨some d, .call ⟨.value x, xs.toArray, ats⟩, ty, pos, af, none⟩ :: rest) ⟨F.list.toArray, D⟩ w := by
  refine wpList_plain rfl fun K hK => ?_
  have hm := evs_eval (D := D) ha
  have he := ev_eval (D := D) hx
  unfold Oper.wp execOp
  simp only [resolve, he, Deferred.ofValue, Sem.run_bind, Sem.run_pure, Result.andThen_ok, invoke, List.map_toArray]
  rw [show (xs.map (Act.mk F.list.toArray D).eval) = vs from hm]
  simp only [List.append_toArray, hf _ _, Oper.upon]
  refine hc.mono fun e w' ⟨v, he, hr⟩ => ?_
  subst he
  exact hK _ _ (by rw [put_some]; exact k v w' hr)
end steps

/-! ### regions that draw their order -/
section draws
variable {P : Program} {ops : Array Oper} {Q : Exit → Act → World → Prop} {S : World → Prop} {fuel : Nat} {lst : List Bool} {F : Fr} {D : List Deferred} {w : World} {i j k : Nat}
  {d : Tmp} {op : Op} {ty : TypeId} {pos : String} {af : Array Edge}
theorem D_start {id : Nat} {l : List Oper} {L : List Value} (N M : Nat) (S : World → World → Prop) (hm : P.follows .mixedOrders = true) (hN : l.length = N) (hM : L.length = M)
    (h : ∀ w1, Grow w w1 → wpAnyH P .any l.toArray Q (S w1) N (List.replicate N false).toArray ⟨(Fr.mk L M []).list.toArray, D⟩ w1) : (Code.region id l.toArray true).wp P Q ⟨L.toArray, D⟩ w := by
  subst hN
  subst hM
  refine wp_region_held (S := S w.drew) hm ?_
  have := h w.drew (grow_drew w)
  simpa [Fr.list, listU] using this
def tk (ops : Array Oper) (lst : List Bool) (i : Nat) : Bool := Region.noSelect ops && Region.free .any ops lst.toArray i && (Region.ready .any ops lst.toArray).contains i
theorem D_q {v : Value} (hi : ops[i]? = some ⟨some d, op, ty, pos, af, none⟩) (hc : tk ops lst i = true) (hQ : ∀ c a w, Q (.panic c) (a.put (some d) v) w → Q (.panic c) a w)
    (hS : S w) (hy : ∀ w', S w' → Yl P F op v w' w') (h : wpAnyH P .any ops Q S fuel (lst.set i true).toArray ⟨(F.put d v).list.toArray, D⟩ w) : wpAnyH P .any ops Q S (fuel + 1) lst.toArray ⟨F.list.toArray, D⟩ w := by
  simp only [tk, Bool.and_eq_true] at hc
  refine wpAnyH_take hi hc.1.1 hc.1.2 hc.2 hQ (.inl ⟨by simp [Region.wanted], fun w' hw' => hy w' hw' D _ _ _ _ _⟩) hS ?_
  rw [put_some, List.setIfInBounds_toArray]
  exact h
theorem D_qon {v : Value} {b : Bool} {t : Tmp} (hi : ops[i]? = some ⟨some d, op, ty, pos, af, some (j, b)⟩) (hj : (ops[j]?).bind (·.dst) = some t) (hv : F.get t = some (.bool b)) (hc : tk ops lst i = true) (hQ : ∀ c a w, Q (.panic c) (a.put (some d) v) w → Q (.panic c) a w)
    (hS : S w) (hy : ∀ w', S w' → Yl P F op v w' w') (h : wpAnyH P .any ops Q S fuel (lst.set i true).toArray ⟨(F.put d v).list.toArray, D⟩ w) : wpAnyH P .any ops Q S (fuel + 1) lst.toArray ⟨F.list.toArray, D⟩ w := by
  simp only [tk, Bool.and_eq_true] at hc
  have hy' : yielded ops F.list.toArray j = some b := by
    unfold yielded
    rw [hj]
    simp [F.at hv]
  refine wpAnyH_take hi hc.1.1 hc.1.2 hc.2 hQ (.inl ⟨by simp [Region.wanted, hy'], fun w' hw' => hy w' hw' D _ _ _ _ _⟩) hS ?_
  rw [put_some, List.setIfInBounds_toArray]
  exact h
theorem D_qoff {b : Bool} {t : Tmp} (hi : ops[i]? = some ⟨some d, op, ty, pos, af, some (j, b)⟩) (hj : (ops[j]?).bind (·.dst) = some t) (hv : F.get t = some (.bool (!b))) (hc : tk ops lst i = true) (hQ : ∀ c a w, Q (.panic c) (a.put (some d) undef) w → Q (.panic c) a w)
    (hS : S w) (h : wpAnyH P .any ops Q S fuel (lst.set i true).toArray ⟨(F.put d undef).list.toArray, D⟩ w) : wpAnyH P .any ops Q S (fuel + 1) lst.toArray ⟨F.list.toArray, D⟩ w := by
  simp only [tk, Bool.and_eq_true] at hc
  have hy' : yielded ops F.list.toArray j = some (!b) := by
    unfold yielded
    rw [hj]
    simp [F.at hv]
  have hne : ((some (!b) : Option Bool) == some b) = false := by cases b <;> rfl
  refine wpAnyH_take hi hc.1.1 hc.1.2 hc.2 hQ (.inr ⟨by simp only [Region.wanted, hy', hne], rfl⟩) hS ?_
  rw [put_some, List.setIfInBounds_toArray]
  exact h
theorem D_qoffU {b : Bool} {t : Tmp} (hi : ops[i]? = some ⟨some d, op, ty, pos, af, some (j, b)⟩) (hj : (ops[j]?).bind (·.dst) = some t) (hv : F.get t = some undef) (hc : tk ops lst i = true) (hQ : ∀ c a w, Q (.panic c) (a.put (some d) undef) w → Q (.panic c) a w)
    (hS : S w) (h : wpAnyH P .any ops Q S fuel (lst.set i true).toArray ⟨(F.put d undef).list.toArray, D⟩ w) : wpAnyH P .any ops Q S (fuel + 1) lst.toArray ⟨F.list.toArray, D⟩ w := by
  simp only [tk, Bool.and_eq_true] at hc
  have hy' : yielded ops F.list.toArray j = none := by
    unfold yielded
    rw [hj]
    simp [F.at hv, undef]
  refine wpAnyH_take hi hc.1.1 hc.1.2 hc.2 hQ (.inr ⟨by simp only [Region.wanted, hy']; rfl, rfl⟩) hS ?_
  rw [put_some, List.setIfInBounds_toArray]
  exact h
theorem Dq {v : Value} (hi : ops[i]? = some ⟨some d, op, ty, pos, af, none⟩)
    (hS : S w) (hy : ∀ w', S w' → Yl P F op v w' w') (h : wpAnyH P .any ops Q S fuel (lst.set i true).toArray ⟨(F.put d v).list.toArray, D⟩ w) (hc : tk ops lst i = true := by kernel_rfl) (hQ : ∀ c a w, Q (.panic c) (a.put (some d) v) w → Q (.panic c) a w := by first | exact fun _ _ _ h => h | exact fun _ _ _ h => (by cases h.1)) : wpAnyH P .any ops Q S (fuel + 1) lst.toArray ⟨F.list.toArray, D⟩ w := D_q hi hc hQ hS hy h
theorem Dqon {v : Value} {b : Bool} {t : Tmp} (hi : ops[i]? = some ⟨some d, op, ty, pos, af, some (j, b)⟩) (hj : (ops[j]?).bind (·.dst) = some t) (hv : F.get t = some (.bool b))
    (hS : S w) (hy : ∀ w', S w' → Yl P F op v w' w') (h : wpAnyH P .any ops Q S fuel (lst.set i true).toArray ⟨(F.put d v).list.toArray, D⟩ w) (hc : tk ops lst i = true := by kernel_rfl) (hQ : ∀ c a w, Q (.panic c) (a.put (some d) v) w → Q (.panic c) a w := by first | exact fun _ _ _ h => h | exact fun _ _ _ h => (by cases h.1)) : wpAnyH P .any ops Q S (fuel + 1) lst.toArray ⟨F.list.toArray, D⟩ w := D_qon hi hj hv hc hQ hS hy h
theorem Dqoff {b : Bool} {t : Tmp} (hi : ops[i]? = some ⟨some d, op, ty, pos, af, some (j, b)⟩) (hj : (ops[j]?).bind (·.dst) = some t) (hv : F.get t = some (.bool (!b)))
    (hS : S w) (h : wpAnyH P .any ops Q S fuel (lst.set i true).toArray ⟨(F.put d undef).list.toArray, D⟩ w) (hc : tk ops lst i = true := by kernel_rfl) (hQ : ∀ c a w, Q (.panic c) (a.put (some d) undef) w → Q (.panic c) a w := by first | exact fun _ _ _ h => h | exact fun _ _ _ h => (by cases h.1)) : wpAnyH P .any ops Q S (fuel + 1) lst.toArray ⟨F.list.toArray, D⟩ w := D_qoff hi hj hv hc hQ hS h
theorem DqoffU {b : Bool} {t : Tmp} (hi : ops[i]? = some ⟨some d, op, ty, pos, af, some (j, b)⟩) (hj : (ops[j]?).bind (·.dst) = some t) (hv : F.get t = some undef)
    (hS : S w) (h : wpAnyH P .any ops Q S fuel (lst.set i true).toArray ⟨(F.put d undef).list.toArray, D⟩ w) (hc : tk ops lst i = true := by kernel_rfl) (hQ : ∀ c a w, Q (.panic c) (a.put (some d) undef) w → Q (.panic c) a w := by first | exact fun _ _ _ h => h | exact fun _ _ _ h => (by cases h.1)) : wpAnyH P .any ops Q S (fuel + 1) lst.toArray ⟨F.list.toArray, D⟩ w := D_qoffU hi hj hv hc hQ hS h
theorem D_g (t : Tmp) {b : Bool} (hv : F.get t = some (.bool b)) (ht : b = true → wpAnyH P .any ops Q S fuel lst.toArray ⟨(F.put t (.bool true)).list.toArray, D⟩ w) (hf : b = false → wpAnyH P .any ops Q S fuel lst.toArray ⟨(F.put t (.bool false)).list.toArray, D⟩ w) :
    wpAnyH P .any ops Q S fuel lst.toArray ⟨F.list.toArray, D⟩ w := by
  have e := set_self (F.at hv)
  cases b
  · have := hf rfl
    rwa [Fr.list_put, e] at this
  · have := ht rfl
    rwa [Fr.list_put, e] at this
/-- Operation number i comes up. -/
def dOp (P : Program) (ops : Array Oper) (Q : Exit → Act → World → Prop) (S : World → Prop) (fuel : Nat) (lst : List Bool) (a : Act) (w : World) (i : Nat) : Prop :=
  wpOp P ops Q i (fun a' w' => S w' ∧ wpAnyH P .any ops Q S fuel (lst.set i true).toArray a' w') a w
theorem D_1 {a : Act} (hr : Region.ready .any ops lst.toArray = [i]) (h : dOp P ops Q S fuel lst a w i) : wpAnyH P .any ops Q S (fuel + 1) lst.toArray a w :=
  wpAnyH_all hr (by simp) (by simpa [dOp, List.setIfInBounds_toArray] using h)
theorem D_2 {a : Act} (hr : Region.ready .any ops lst.toArray = [i, j]) (h : dOp P ops Q S fuel lst a w i) (h' : dOp P ops Q S fuel lst a w j) : wpAnyH P .any ops Q S (fuel + 1) lst.toArray a w :=
  wpAnyH_all hr (by simp) (by simpa [dOp, List.setIfInBounds_toArray] using ⟨h, h'⟩)
theorem D_3 {a : Act} (hr : Region.ready .any ops lst.toArray = [i, j, k]) (h : dOp P ops Q S fuel lst a w i) (h' : dOp P ops Q S fuel lst a w j) (h'' : dOp P ops Q S fuel lst a w k) : wpAnyH P .any ops Q S (fuel + 1) lst.toArray a w :=
  wpAnyH_all hr (by simp) (by simpa [dOp, List.setIfInBounds_toArray] using ⟨h, h', h''⟩)
theorem E_val {v : Value} {w' : World} (hi : ops[i]? = some ⟨some d, op, ty, pos, af, none⟩) (hy : Yl P F op v w w') (hS : S w') (h : wpAnyH P .any ops Q S fuel (lst.set i true).toArray ⟨(F.put d v).list.toArray, D⟩ w') : dOp P ops Q S fuel lst ⟨F.list.toArray, D⟩ w i := by
  unfold dOp wpOp
  simp only [hi]
  rw [if_pos (by simp [Region.wanted])]
  refine .inl ?_
  unfold Oper.wp
  rw [hy]
  refine ⟨hS, ?_⟩
  rw [put_some]
  exact h
theorem E_st {w' : World} (hi : ops[i]? = some ⟨none, op, ty, pos, af, none⟩) (hy : Ys P F op w w') (hS : S w') (h : wpAnyH P .any ops Q S fuel (lst.set i true).toArray ⟨F.list.toArray, D⟩ w') : dOp P ops Q S fuel lst ⟨F.list.toArray, D⟩ w i := by
  unfold dOp wpOp
  simp only [hi]
  rw [if_pos (by simp [Region.wanted])]
  refine .inl ?_
  unfold Oper.wp
  rw [hy]
  exact ⟨hS, h⟩
/-- A guarded operation whose guard says yes. -/
theorem E_on {dst : Option Tmp} {b : Bool} {t : Tmp} (hi : ops[i]? = some ⟨dst, op, ty, pos, af, some (j, b)⟩) (hj : (ops[j]?).bind (·.dst) = some t) (hv : F.get t = some (.bool b))
    (h : Oper.wp P ⟨dst, op, ty, pos, af, none⟩ ⟨F.list.toArray, D⟩ w (fun a' w' => S w' ∧ wpAnyH P .any ops Q S fuel (lst.set i true).toArray a' w') Q) : dOp P ops Q S fuel lst ⟨F.list.toArray, D⟩ w i := by
  have hy' : yielded ops F.list.toArray j = some b := by
    unfold yielded
    rw [hj]
    simp [F.at hv]
  unfold dOp wpOp
  simp only [hi]
  rw [if_pos (by simp [Region.wanted, hy'])]
  exact .inl h
theorem E_call {f : FuncId} {xs : List Operand} {ats : Array TypeId} {vs : List Value} {R : Value → World → Prop} (hi : ops[i]? = some ⟨some d, .call ⟨.value (.func f), xs.toArray, ats⟩, ty, pos, af, none⟩) (ha : evs F xs = some vs) (hf : Enters P f) (hc : Calls P f vs.toArray w (Ret R))
    (h : ∀ v w', R v w' → S w' ∧ wpAnyH P .any ops Q S fuel (lst.set i true).toArray ⟨(F.put d v).list.toArray, D⟩ w') : dOp P ops Q S fuel lst ⟨F.list.toArray, D⟩ w i := by
  unfold dOp wpOp
  simp only [hi]
  rw [if_pos (by simp [Region.wanted])]
  refine .inl ?_
  have hm := evs_eval (D := D) ha
  unfold Oper.wp execOp
  simp only [resolve, Deferred.ofValue, Act.eval, Sem.run_bind, Sem.run_pure, Result.andThen_ok, invoke, Array.append_empty, List.map_toArray]
  rw [show (xs.map (Act.mk F.list.toArray D).eval) = vs from hm]
  simp only [Array.empty_append, hf _ _, Oper.upon]
  refine hc.mono fun e w' ⟨v, he, hr⟩ => ?_
  subst he
  have h9 := h v w' hr
  rw [← put_some] at h9
  exact h9
theorem E_calln {f : FuncId} {xs : List Operand} {ats : Array TypeId} {vs : List Value} {R : Value → World → Prop} {b : Bool} {t : Tmp} (hi : ops[i]? = some ⟨some d, .call ⟨.value (.func f), xs.toArray, ats⟩, ty, pos, af, some (j, b)⟩)
    (hj : (ops[j]?).bind (·.dst) = some t) (hv : F.get t = some (.bool b)) (ha : evs F xs = some vs) (hf : Enters P f) (hc : Calls P f vs.toArray w (Ret R))
    (h : ∀ v w', R v w' → S w' ∧ wpAnyH P .any ops Q S fuel (lst.set i true).toArray ⟨(F.put d v).list.toArray, D⟩ w') : dOp P ops Q S fuel lst ⟨F.list.toArray, D⟩ w i := by
  refine E_on hi hj hv ?_
  have hm := evs_eval (D := D) ha
  unfold Oper.wp execOp
  simp only [resolve, Deferred.ofValue, Act.eval, Sem.run_bind, Sem.run_pure, Result.andThen_ok, invoke, Array.append_empty, List.map_toArray]
  rw [show (xs.map (Act.mk F.list.toArray D).eval) = vs from hm]
  simp only [Array.empty_append, hf _ _, Oper.upon]
  refine hc.mono fun e w' ⟨v, he, hr⟩ => ?_
  subst he
  have h9 := h v w' hr
  rw [← put_some] at h9
  exact h9
theorem E_callc {f : FuncId} {x : Operand} {xs : List Operand} {ats : Array TypeId} {vs cs : List Value} {R : Value → World → Prop} (hi : ops[i]? = some ⟨some d, .call ⟨.value x, xs.toArray, ats⟩, ty, pos, af, none⟩)
    (hx : ev F x = some (.func (.func f) #[] cs.toArray)) (ha : evs F xs = some vs) (hf : Enters P f) (hc : Calls P f (vs ++ cs).toArray w (Ret R))
    (h : ∀ v w', R v w' → S w' ∧ wpAnyH P .any ops Q S fuel (lst.set i true).toArray ⟨(F.put d v).list.toArray, D⟩ w') : dOp P ops Q S fuel lst ⟨F.list.toArray, D⟩ w i := by
  unfold dOp wpOp
  simp only [hi]
  rw [if_pos (by simp [Region.wanted])]
  refine .inl ?_
  have hm := evs_eval (D := D) ha
  have he := ev_eval (D := D) hx
  unfold Oper.wp execOp
  simp only [resolve, he, Deferred.ofValue, Sem.run_bind, Sem.run_pure, Result.andThen_ok, invoke, List.map_toArray]
  rw [show (xs.map (Act.mk F.list.toArray D).eval) = vs from hm]
  simp only [List.append_toArray, hf _ _, Oper.upon]
  refine hc.mono fun e w' ⟨v, he, hr⟩ => ?_
  subst he
  have h9 := h v w' hr
  rw [← put_some] at h9
  exact h9
theorem D_end {L' : List Value} (hr : Region.ready .any ops lst.toArray = []) (hN : F.base.length = F.n) (hL : tabU F 0 F.n = L'.map some) (h : Q .normal ⟨L'.toArray, D⟩ w) : wpAnyH P .any ops Q S fuel lst.toArray ⟨F.list.toArray, D⟩ w := by
  rw [tab_list (list_len hN) hL]
  exact wpAnyH_done hr h fuel
theorem D_en {L' : List Value} (hr : Region.ready .any ops lst.toArray = []) (hN : F.base.length = F.n) (hL : unO (tabU F 0 F.n) = some L') (h : Q .normal ⟨L'.toArray, D⟩ w) : wpAnyH P .any ops Q S fuel lst.toArray ⟨F.list.toArray, D⟩ w := D_end hr hN (unO_map hL) h
theorem D_cut {c : Code} {a : Act} (J : Act → World → Prop) (h : c.wp P (fun e a' w' => e = .normal ∧ J a' w') a w) (k : ∀ a' w', J a' w' → Q .normal a' w') : c.wp P Q a w :=
  wp_mono h fun _ _ _ ⟨he, hj⟩ => by subst he; exact k _ _ hj
end draws

/-! ### control -/
section control
variable {P : Program} {Q : Exit → Act → World → Prop} {K : Act → World → Prop} {a : Act} {w : World}
theorem th_n (h : K a w) : Exit.then K Q .normal a w := h
theorem th_x {i : Nat} (h : Q (.exit i) a w) : Exit.then K Q (.exit i) a w := h
theorem th_r (h : Q .ret a w) : Exit.then K Q .ret a w := h
theorem ib_n {j : Nat} (h : Q .normal a w) : Exit.inBlock j Q .normal a w := h
theorem ib_r {j : Nat} (h : Q .ret a w) : Exit.inBlock j Q .ret a w := h
theorem ib_e {j : Nat} (h : Q .normal a w) : Exit.inBlock j Q (.exit j) a w := by simpa [Exit.inBlock] using h
theorem ib_x {i j : Nat} (hn : i ≠ j) (h : Q (.exit i) a w) : Exit.inBlock j Q (.exit i) a w := by simpa [Exit.inBlock, hn] using h
theorem S_if {c : Operand} {x y : Code} {b : Bool} {L : List Value} {D : List Deferred} (hc : evL L c = some (.bool b)) (ht : b = true → x.wp P Q ⟨L.toArray, D⟩ w) (hf : b = false → y.wp P Q ⟨L.toArray, D⟩ w) : (Code.cond c x y).wp P Q ⟨L.toArray, D⟩ w :=
  wp_cond_split (evL_eval hc) ht hf
theorem S_ifT {c : Operand} {x y : Code} {L : List Value} {D : List Deferred} (hc : evL L c = some (.bool true)) (ht : x.wp P Q ⟨L.toArray, D⟩ w) : (Code.cond c x y).wp P Q ⟨L.toArray, D⟩ w :=
  wp_cond_true (evL_eval hc) ht
theorem S_ifF {c : Operand} {x y : Code} {L : List Value} {D : List Deferred} (hc : evL L c = some (.bool false)) (hf : y.wp P Q ⟨L.toArray, D⟩ w) : (Code.cond c x y).wp P Q ⟨L.toArray, D⟩ w :=
  wp_cond_false (evL_eval hc) hf
theorem enter {f : FuncId} {fn : Func} {c : Code} {args : List Value} {n : Nat} {R : Ending → World → Prop} {L : List Value} (hf : P.funcs[f]? = some fn) (hb : fn.body = some c) (hn : fn.ntmps = n)
    (hL : args ++ List.replicate (n - args.length) undef = L) (h : c.wp P (bodyPost P fn R) ⟨L.toArray, []⟩ w) : Calls P f args.toArray w R := by
  refine calls_of_wp hf hb ?_
  subst hn
  subst hL
  have e : args.toArray ++ Array.replicate (fn.ntmps - args.toArray.size) undef = (args ++ List.replicate (fn.ntmps - args.length) undef).toArray := by
    simp
  rw [e]
  exact h
theorem ret_n0 {fn : Func} {R : Value → World → Prop} {L : List Value} (hr : fn.results = #[]) (h : R (.tuple #[]) w) : bodyPost P fn (Ret R) .normal ⟨L.toArray, []⟩ w :=
  ⟨rfl, .tuple #[], by simp [results, hr], _, rfl, h⟩
theorem ret_r0 {fn : Func} {R : Value → World → Prop} {L : List Value} (hr : fn.results = #[]) (h : R (.tuple #[]) w) : bodyPost P fn (Ret R) .ret ⟨L.toArray, []⟩ w :=
  ⟨rfl, .tuple #[], by simp [results, hr], _, rfl, h⟩
theorem ret_r1 {fn : Func} {R : Value → World → Prop} {L : List Value} {t : Tmp} {v : Value} (hr : fn.results = #[.tmp t]) (hv : L[t]? = some v) (h : R v w) : bodyPost P fn (Ret R) .ret ⟨L.toArray, []⟩ w :=
  ⟨rfl, v, by simp [results, hr, Array.getD_eq_getD_getElem?, hv], _, rfl, h⟩
theorem ret_r2 {fn : Func} {R : Value → World → Prop} {L : List Value} {t t' : Tmp} {v v' : Value} (hr : fn.results = #[.tmp t, .tmp t']) (hv : L[t]? = some v) (hv' : L[t']? = some v') (h : R (.tuple #[v, v']) w) :
    bodyPost P fn (Ret R) .ret ⟨L.toArray, []⟩ w :=
  ⟨rfl, .tuple #[v, v'], by simp [results, hr, Array.getD_eq_getD_getElem?, hv, hv'], _, rfl, h⟩
end control
end Go.Proofs.Ytjmfdmndchoplaa
