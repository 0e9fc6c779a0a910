/-
  Walks through functions of the program and the reference, and the plain laws behind them: what one claim needs of them.
  Conditions: those that each theorem states.
-/
import Derived.Tactics
import Derived.Below
import Derived.OrdersHeld
import Derived.KernelRfl
import Derived.LoopTactic
import Derived.Laws.MakeOwn
import Derived.Laws.Entries
import Derived.Laws.Slices
import Derived.Laws.Shifts
import Derived.Shelf.Abstract
import Derived.RowKit
import Derived.Laws.BitsLemmas
import Derived.Laws.Tables
import Derived.Laws.OwnMore
import Derived.Maps.AppendAt
import Derived.Test.YtikgflhepclfgacProg
set_option linter.unusedVariables false
set_option linter.unusedSimpArgs false
namespace Go.Proofs.Ytikgflhepclfgac
/-! Eng -/
section
open Go Go.RowKit
/-- Outside of the blocks of S nothing that w has is other in w'. -/
structure Mod (S : Nat → Prop) (w w' : World) : Prop where
  os : w'.os = w.os
  tape : w'.tape = w.tape
  output : w'.output = w.output
  size : w.heap.size ≤ w'.heap.size
  block : ∀ k, k < w.heap.size → ¬ S k → w'.heap[k]? = w.heap[k]?
def No : Nat → Prop := fun _ => False
/-- w' is w with new blocks. -/
abbrev Grow (w w' : World) : Prop := Mod No w w'
theorem Mod.refl (S : Nat → Prop) (w : World) : Mod S w w := ⟨rfl, rfl, rfl, Nat.le_refl _, fun _ _ _ => rfl⟩
theorem Mod.trans' {S S' T : Nat → Prop} {a b c : World} (h : Mod S a b) (k : Mod S' b c) (h1 : ∀ i, S i → i < a.heap.size → T i) (h2 : ∀ i, S' i → i < a.heap.size → T i) : Mod T a c :=
  ⟨k.os.trans h.os, k.tape.trans h.tape, k.output.trans h.output, Nat.le_trans h.size k.size, fun i hi hn =>
    (k.block i (Nat.lt_of_lt_of_le hi h.size) (fun hs => hn (h2 i hs hi))).trans (h.block i hi (fun hs => hn (h1 i hs hi)))⟩
theorem Mod.trans {S : Nat → Prop} {a b c : World} (h : Mod S a b) (k : Mod S b c) : Mod S a c := h.trans' k (fun _ h _ => h) (fun _ h _ => h)
theorem Mod.weak {S T : Nat → Prop} {a b : World} (h : Mod S a b) (hs : ∀ i, S i → i < a.heap.size → T i) : Mod T a b :=
  ⟨h.os, h.tape, h.output, h.size, fun i hi hn => h.block i hi (fun x => hn (hs i x hi))⟩
theorem Mod.of_grow {S : Nat → Prop} {a b : World} (h : Grow a b) : Mod S a b := h.weak (fun _ h _ => h.elim)
theorem Mod.grow {S : Nat → Prop} {a b c : World} (h : Mod S a b) (g : Grow b c) : Mod S a c := h.trans (Mod.of_grow g)
/-- Changes that lie above all of a's blocks are no changes of a. -/
theorem Mod.above {S S' : Nat → Prop} {a b c : World} (h : Mod S a b) (k : Mod S' b c) (hs : ∀ i, S' i → a.heap.size ≤ i) : Mod S a c :=
  h.trans' k (fun _ h _ => h) (fun i h hi => absurd (hs i h) (by omega))
theorem Mod.abv {S S' : Nat → Prop} {a b c : World} (h : Mod S a b) (k : Mod S' b c) (hs : ∀ i, S' i → a.heap.size ≤ i := by intro i h; first | omega | (dsimp only at h; omega)) : Mod S a c := h.above k hs
theorem Mod.trn {S S' : Nat → Prop} {a b c : World} (h : Mod S a b) (k : Mod S' b c) (h2 : ∀ i, S' i → i < a.heap.size → S i := by intro i h _; first | exact h | omega | (dsimp only at h ⊢; omega) | (subst h; rfl) | (subst h; exact ⟨by omega, rfl⟩)) : Mod S a c := h.trans' k (fun _ h _ => h) h2
theorem Mod.below {w w' : World} (h : Grow w w') : Below w.heap.size w w' := ⟨h.os, h.tape, h.output, h.size, fun k hk => h.block k hk (fun h => h)⟩
theorem grow_drew (w : World) : Grow w w.drew := ⟨rfl, rfl, rfl, Nat.le_refl _, fun _ _ _ => rfl⟩
theorem grow_alloc (w : World) (o : Obj) : Grow w (w.alloc o) := ⟨rfl, rfl, rfl, by simp, fun k hk _ => Below.heap_alloc w o k hk⟩
theorem mod_grown {w w' : World} {row : Option Nat} (h : w.grownBy w' row) : Mod (fun k => some k = row) w w' := ⟨h.os, h.tape, h.output, h.size, h.block⟩
/-- A cell of an old block. -/
theorem Mod.cell {S : Nat → Prop} {w w' : World} (h : Mod S w w') {g o : Nat} {v : Value} (hc : w.cell? ⟨g, o, none⟩ = some v) (hn : ¬ S g) : w'.cell? ⟨g, o, none⟩ = some v := by
  have hlt := World.block_lt_of_cell? w ⟨g, o, none⟩ hc
  rw [World.cell?_of_block (w := w) (h.block g hlt hn)]
  exact hc
/-- Block b is known whole. -/
def Blk (w : World) (b : Nat) (e : TypeId) (cs : Array Value) : Prop := w.heap[b]? = some (.cells cs e (0, 0))
theorem Blk.lt {w : World} {b : Nat} {e : TypeId} {cs : Array Value} (h : Blk w b e cs) : b < w.heap.size := by
  rcases Nat.lt_or_ge b w.heap.size with hlt | hge
  · exact hlt
  · unfold Blk at h
    rw [Array.getElem?_eq_none hge] at h
    cases h
theorem Blk.mod {S : Nat → Prop} {w w' : World} {b : Nat} {e : TypeId} {cs : Array Value} (h : Blk w b e cs) (m : Mod S w w') (hn : ¬ S b) : Blk w' b e cs := (m.block b h.lt hn).trans h
theorem Blk.md {S : Nat → Prop} {w w' : World} {b : Nat} {e : TypeId} {cs : Array Value} (h : Blk w b e cs) (m : Mod S w w') (hn : ¬ S b := by intro h; first | omega | (dsimp only at h; omega)) : Blk w' b e cs := h.mod m hn
theorem Blk.grow {w w' : World} {b : Nat} {e : TypeId} {cs : Array Value} (h : Blk w b e cs) (m : Grow w w') : Blk w' b e cs := h.mod m (fun h => h)
theorem Blk.at {w : World} {b : Nat} {e : TypeId} {cs : Array Value} (h : Blk w b e cs) {i : Nat} {v : Value} (hi : cs[i]? = some v) : w.cell? ⟨b, i, none⟩ = some v := by
  unfold Blk at h
  simp [World.cell?, h, hi]
theorem Blk.new (w : World) (e : TypeId) (cs : Array Value) : Blk (w.alloc (.cells cs e)) w.heap.size e cs := by
  unfold Blk World.alloc
  simp
theorem Blk.ne {w : World} {b b' : Nat} {e e' : TypeId} {cs cs' : Array Value} (h : Blk w b e cs) (h' : Blk w b' e' cs') (hne : e ≠ e') : b ≠ b' := by
  rintro rfl
  unfold Blk at h h'
  rw [h] at h'
  injection h' with h'
  injection h' with _ ht
  exact hne ht
theorem Blk.set {w : World} {b : Nat} {e : TypeId} {cs : Array Value} (h : Blk w b e cs) (i : Nat) (u : Value) : Blk (w.setCell ⟨b, i, none⟩ u) b e (cs.setIfInBounds i u) := by
  unfold Blk at *
  simp [World.setCell, Array.getElem?_modify, h]
/-- A frame: a list of at least N values, and what was written to it since, the last first. -/
structure Fr where
  base : List Value
  n : Nat
  ups : List (Nat × Value)
def lookU (L : List Value) (n : Nat) : List (Nat × Value) → Nat → Option Value
  | [], t => L[t]?
  | (d, v) :: U, t => bif Nat.beq d t then (bif Nat.ble (d + 1) n then some v else none) else lookU L n U t
def listU (L : List Value) : List (Nat × Value) → List Value
  | [] => L
  | (d, v) :: U => (listU L U).set d v
def Fr.get (F : Fr) (t : Nat) : Option Value := lookU F.base F.n F.ups t
def Fr.list (F : Fr) : List Value := listU (F.base ++ List.replicate (F.n - F.base.length) undef) F.ups
@[reducible] def Fr.put (F : Fr) (d : Nat) (v : Value) : Fr := ⟨F.base, F.n, (d, v) :: F.ups⟩
theorem listU_len (L : List Value) : ∀ U, (listU L U).length = L.length
  | [] => rfl
  | (d, v) :: U => by rw [listU, List.length_set, listU_len L U]
theorem look_list {L : List Value} {n : Nat} : ∀ {U : List (Nat × Value)} {t : Nat} {v : Value}, lookU L n U t = some v → (listU (L ++ List.replicate (n - L.length) undef) U)[t]? = some v
  | [], t, v, h => by
    have h' : L[t]? = some v := h
    obtain ⟨hl, he⟩ := List.getElem?_eq_some_iff.1 h'
    rw [listU, List.getElem?_append_left hl]
    exact h'
  | (d, u) :: U, t, v, h => by
    unfold lookU at h
    rw [listU]
    cases hb : Nat.beq d t with
    | true =>
      have e : d = t := Nat.eq_of_beq_eq_true hb
      rw [hb] at h
      cases hn : Nat.ble (d + 1) n with
      | false => rw [hn] at h; cases h
      | true =>
        rw [hn] at h
        have hv : u = v := by simpa using h
        have hle := Nat.le_of_ble_eq_true hn
        rw [← e, List.getElem?_set_self (by rw [listU_len]; simp; omega), hv]
    | false =>
      have e : d ≠ t := Nat.ne_of_beq_eq_false hb
      rw [hb] at h
      rw [List.getElem?_set_ne e]
      exact look_list h
theorem Fr.at {F : Fr} {t : Nat} {v : Value} (h : F.get t = some v) : F.list[t]? = some v := look_list h
theorem Fr.list_put (F : Fr) (d : Nat) (v : Value) : (F.put d v).list = F.list.set d v := rfl
/-- The frame's values, one after the other. -/
def tabU (F : Fr) : Nat → Nat → List (Option Value)
  | _, 0 => []
  | k, n + 1 => F.get k :: tabU F (k + 1) n
theorem tab_get {F : Fr} : ∀ (n k : Nat) (L' : List Value), tabU F k n = L'.map some → L'.length = n ∧ ∀ i, i < n → F.get (k + i) = L'[i]?
  | 0, k, L', h => by
    cases L' with
    | nil => exact ⟨rfl, fun i hi => absurd hi (by omega)⟩
    | cons a l => simp [tabU] at h
  | n + 1, k, L', h => by
    cases L' with
    | nil => simp [tabU] at h
    | cons a l =>
      simp only [tabU, List.map_cons, List.cons.injEq] at h
      obtain ⟨h1, h2⟩ := tab_get n (k + 1) l h.2
      refine ⟨by simp [h1], fun i hi => ?_⟩
      cases i with
      | zero => simpa using h.1
      | succ i =>
        rw [show k + (i + 1) = k + 1 + i by omega, h2 i (by omega)]
        simp
theorem tab_list {F : Fr} {L' : List Value} (hl : F.list.length = F.n) (h : tabU F 0 F.n = L'.map some) : F.list = L' := by
  obtain ⟨h1, h2⟩ := tab_get F.n 0 L' h
  apply List.ext_getElem?
  intro i
  by_cases hi : i < F.n
  · have h3 := h2 i hi
    have hv : L'[i]? = some (L'[i]'(by omega)) := List.getElem?_eq_getElem (by omega)
    rw [Nat.zero_add, hv] at h3
    rw [F.at h3, hv]
  · rw [List.getElem?_eq_none (by omega), List.getElem?_eq_none (by omega)]
theorem list_len {F : Fr} (h : F.base.length = F.n) : F.list.length = F.n := by
  unfold Fr.list
  rw [listU_len]
  simp
  omega
/-- All of the values, if each is there. -/
def unO : List (Option Value) → Option (List Value)
  | [] => some []
  | none :: _ => none
  | some v :: l => match unO l with
    | some vs => some (v :: vs)
    | none => none
theorem unO_map : ∀ {l : List (Option Value)} {L : List Value}, unO l = some L → l = L.map some
  | [], L, h => by
    simp only [unO, Option.some.injEq] at h
    subst h
    rfl
  | none :: _, _, h => by cases h
  | some v :: l, L, h => by
    unfold unO at h
    split at h
    · rename_i vs hv
      simp only [Option.some.injEq] at h
      subst h
      rw [unO_map hv]
      rfl
    · cases h
def ev (F : Fr) : Operand → Option Value
  | .tmp t => F.get t
  | .const v => some v
  | .global g => some (.pointer (some ⟨g, 0, none⟩))
  | .func f => some (.func (.func f) #[] #[])
def evs (F : Fr) : List Operand → Option (List Value)
  | [] => some []
  | x :: xs => match ev F x, evs F xs with
    | some v, some vs => some (v :: vs)
    | _, _ => none
def evp (F : Fr) : List (Nat × Operand) → Option (List (Nat × Value))
  | [] => some []
  | (i, x) :: xs => match ev F x, evp F xs with
    | some v, some vs => some ((i, v) :: vs)
    | _, _ => none
theorem ev_eval {F : Fr} {D : List Deferred} {x : Operand} {v : Value} (h : ev F x = some v) : (Act.mk F.list.toArray D).eval x = v := by
  cases x with
  | tmp t =>
    have := Fr.at (F := F) h
    simp [Act.eval, Array.getD_eq_getD_getElem?, this]
  | const u => simpa [ev, Act.eval] using h
  | global g => simpa [ev, Act.eval] using h
  | func f => simpa [ev, Act.eval] using h
theorem evs_eval {F : Fr} {D : List Deferred} : ∀ {xs : List Operand} {vs : List Value}, evs F xs = some vs → xs.map (Act.mk F.list.toArray D).eval = vs
  | [], _, h => by simpa [evs] using h
  | x :: xs, vs, h => by
    unfold evs at h
    split at h
    · rename_i v us h1 h2
      simp only [Option.some.injEq] at h
      subst h
      simp [ev_eval h1, evs_eval h2]
    · cases h
theorem evp_eval {F : Fr} {D : List Deferred} : ∀ {xs : List (Nat × Operand)} {vs : List (Nat × Value)}, evp F xs = some vs → xs.map (fun p => (p.1, (Act.mk F.list.toArray D).eval p.2)) = vs
  | [], _, h => by simpa [evp] using h
  | (i, x) :: xs, vs, h => by
    unfold evp at h
    split at h
    · rename_i v us h1 h2
      simp only [Option.some.injEq] at h
      subst h
      simp [ev_eval h1, evp_eval h2]
    · cases h
theorem put_some (F : Fr) (D : List Deferred) (d : Tmp) (v : Value) : (Act.mk F.list.toArray D).put (some d) v = ⟨(F.put d v).list.toArray, D⟩ := by simp [Act.put, Fr.list_put]
/-- A frame that is written out. -/
def evL (L : List Value) : Operand → Option Value
  | .tmp t => L[t]?
  | .const v => some v
  | _ => none
theorem evL_eval {L : List Value} {D : List Deferred} {x : Operand} {v : Value} (h : evL L x = some v) : (Act.mk L.toArray D).eval x = v := by
  cases x <;> simp_all [evL, Act.eval, Array.getD_eq_getD_getElem?]
/-- The operation yields v, and the world becomes w'. -/
def Yl (P : Program) (F : Fr) (op : Op) (v : Value) (w w' : World) : Prop :=
  ∀ (D : List Deferred) (dst : Option Tmp) (ty : TypeId) (pos : String) (af : Array Edge) (g : Option (Nat × Bool)),
    (execOp (Act.mk F.list.toArray D).eval (Oper.mk dst op ty pos af g)).run P w = .ok (.value v) w'
/-- The operation (a store) does its work. -/
def Ys (P : Program) (F : Fr) (op : Op) (w w' : World) : Prop :=
  ∀ (D : List Deferred) (dst : Option Tmp) (ty : TypeId) (pos : String) (af : Array Edge) (g : Option (Nat × Bool)),
    (execOp (Act.mk F.list.toArray D).eval (Oper.mk dst op ty pos af g)).run P w = .ok .skip w'
section steps
variable {P : Program} {ops : Array Oper} {Q : Exit → Act → World → Prop} {rest : List Oper} {F : Fr} {D : List Deferred} {w : World}
  {d : Tmp} {op : Op} {ty : TypeId} {pos : String} {af : Array Edge}
theorem S_val {v : Value} {w' : World} (h : Yl P F op v w w') (k : wpList P ops Q rest ⟨(F.put d v).list.toArray, D⟩ w') : wpList P ops Q (⟨some d, op, ty, pos, af, none⟩ :: rest) ⟨F.list.toArray, D⟩ w := by
  refine wpList_plain rfl fun K hK => ?_
  unfold Oper.wp
  rw [h]
  exact hK _ _ (by rw [put_some]; exact k)
theorem S_st {w' : World} (h : Ys P F op w w') (k : wpList P ops Q rest ⟨F.list.toArray, D⟩ w') : wpList P ops Q (⟨none, op, ty, pos, af, none⟩ :: rest) ⟨F.list.toArray, D⟩ w := by
  refine wpList_plain rfl fun K hK => ?_
  unfold Oper.wp
  rw [h]
  exact hK _ _ k
/-- A guarded operation whose guard says yes. -/
theorem S_on {dst : Option Tmp} {j : Nat} {b : Bool} {t : Tmp} (hj : (ops[j]?).bind (·.dst) = some t) (hv : F.get t = some (.bool b))
    (k : wpList P ops Q (⟨dst, op, ty, pos, af, none⟩ :: rest) ⟨F.list.toArray, D⟩ w) : wpList P ops Q (⟨dst, op, ty, pos, af, some (j, b)⟩ :: rest) ⟨F.list.toArray, D⟩ w := by
  have hy : yielded ops F.list.toArray j = some b := by
    unfold yielded
    rw [hj]
    simp [F.at hv]
  unfold wpList at *
  rw [if_pos (by simp [Region.wanted])] at k
  rw [if_pos (by simp [Region.wanted, hy])]
  exact k
theorem S_off {j : Nat} {b : Bool} {t : Tmp} (hj : (ops[j]?).bind (·.dst) = some t) (hv : F.get t = some (.bool (!b)))
    (k : wpList P ops Q rest ⟨(F.put d undef).list.toArray, D⟩ w) : wpList P ops Q (⟨some d, op, ty, pos, af, some (j, b)⟩ :: rest) ⟨F.list.toArray, D⟩ w := by
  have hy : yielded ops F.list.toArray j = some (!b) := by
    unfold yielded
    rw [hj]
    simp [F.at hv]
  unfold wpList
  have : ((some (!b) : Option Bool) == some b) = false := by cases b <;> rfl
  simp only [Region.wanted, hy, this, Bool.false_eq_true, if_false]
  rw [put_some]
  exact k
theorem S_offU {j : Nat} {b : Bool} {t : Tmp} (hj : (ops[j]?).bind (·.dst) = some t) (hv : F.get t = some undef)
    (k : wpList P ops Q rest ⟨(F.put d undef).list.toArray, D⟩ w) : wpList P ops Q (⟨some d, op, ty, pos, af, some (j, b)⟩ :: rest) ⟨F.list.toArray, D⟩ w := by
  have hy : yielded ops F.list.toArray j = none := by
    unfold yielded
    rw [hj]
    simp [F.at hv, undef]
  unfold wpList
  simp only [Region.wanted, hy]
  rw [put_some]
  exact k
theorem set_self {L : List Value} {t : Tmp} {v : Value} (hv : L[t]? = some v) : L.set t v = L := by
  apply List.ext_getElem?
  intro i
  rw [List.getElem?_set]
  by_cases h : t = i
  · subst h
    obtain ⟨hl, he⟩ := List.getElem?_eq_some_iff.1 hv
    simp [hl, he]
  · simp [h]
/-- A guard that is not decided: both ways, the slot's value written out. -/
theorem S_g {l : List Oper} (t : Tmp) {b : Bool} (hv : F.get t = some (.bool b)) (ht : b = true → wpList P ops Q l ⟨(F.put t (.bool true)).list.toArray, D⟩ w) (hf : b = false → wpList P ops Q l ⟨(F.put t (.bool false)).list.toArray, D⟩ w) :
    wpList P ops Q l ⟨F.list.toArray, D⟩ w := by
  have e := set_self (F.at hv)
  cases b
  · have := hf rfl
    rwa [Fr.list_put, e] at this
  · have := ht rfl
    rwa [Fr.list_put, e] at this
theorem S_beg {l : List Oper} {L : List Value} (N : Nat) (hN : L.length = N) (k : wpList P ops Q l ⟨(Fr.mk L N []).list.toArray, D⟩ w) : wpList P ops Q l ⟨L.toArray, D⟩ w := by
  subst hN
  simpa [Fr.list, listU] using k
theorem S_nil {L' : List Value} (hN : F.base.length = F.n) (h : tabU F 0 F.n = L'.map some) (k : Q .normal ⟨L'.toArray, D⟩ w) : wpList P ops Q [] ⟨F.list.toArray, D⟩ w := by
  rw [tab_list (list_len hN) h]
  exact k
theorem S_nl {L' : List Value} (hN : F.base.length = F.n) (h : unO (tabU F 0 F.n) = some L') (k : Q .normal ⟨L'.toArray, D⟩ w) : wpList P ops Q [] ⟨F.list.toArray, D⟩ w := S_nil hN (unO_map h) k
theorem Sb {id : Nat} {l : List Oper} {L : List Value} (N : Nat) (hN : L.length = N) (k : wpList P l.toArray Q l ⟨(Fr.mk L N []).list.toArray, D⟩ w) : (Code.region id l.toArray false).wp P Q ⟨L.toArray, D⟩ w := wp_region_lit (S_beg N hN k)
/-- The contract's post: it returns a value of which R holds. -/
def Ret (R : Value → World → Prop) : Ending → World → Prop := fun e w => ∃ v, e = .returned v ∧ R v w
theorem S_call {f : FuncId} {xs : List Operand} {ats : Array TypeId} {vs : List Value} {R : Value → World → Prop} (ha : evs F xs = some vs) (hf : Enters P f) (hc : Calls P f vs.toArray w (Ret R))
    (k : ∀ v w', R v w' → wpList P ops Q rest ⟨(F.put d v).list.toArray, D⟩ w') :
    wpList P ops Q (⟨some d, .call ⟨.value (.func f), xs.toArray, ats⟩, ty, pos, af, none⟩ :: rest) ⟨F.list.toArray, D⟩ w := by
  refine wpList_plain rfl fun K hK => ?_
  have hm := evs_eval (D := D) ha
  unfold Oper.wp execOp
  simp only [resolve, Deferred.ofValue, Act.eval, Sem.run_bind, Sem.run_pure, Result.andThen_ok, invoke, Array.append_empty, List.map_toArray]
  rw [show (xs.map (Act.mk F.list.toArray D).eval) = vs from hm]
  simp only [Array.empty_append, hf _ _, Oper.upon]
  refine hc.mono fun e w' ⟨v, he, hr⟩ => ?_
  subst he
  exact hK _ _ (by rw [put_some]; exact k v w' hr)
/-- A call of a closure. -/
theorem S_callc {f : FuncId} {x : Operand} {xs : List Operand} {ats : Array TypeId} {vs cs : List Value} {R : Value → World → Prop} (hx : ev F x = some (.func (.func f) #[] cs.toArray)) (ha : evs F xs = some vs) (hf : Enters P f)
    (hc : Calls P f (vs ++ cs).toArray w (Ret R))
    (k : ∀ v w', R v w' → wpList P ops Q rest ⟨(F.put d v).list.toArray, D⟩ w') :
    wpList P ops Q (⟨some d, .call ⟨.value x, xs.toArray, ats⟩, ty, pos, af, none⟩ :: rest) ⟨F.list.toArray, D⟩ w := by
  refine wpList_plain rfl fun K hK => ?_
  have hm := evs_eval (D := D) ha
  have he := ev_eval (D := D) hx
  unfold Oper.wp execOp
  simp only [resolve, he, Deferred.ofValue, Sem.run_bind, Sem.run_pure, Result.andThen_ok, invoke, List.map_toArray]
  rw [show (xs.map (Act.mk F.list.toArray D).eval) = vs from hm]
  simp only [List.append_toArray, hf _ _, Oper.upon]
  refine hc.mono fun e w' ⟨v, he, hr⟩ => ?_
  subst he
  exact hK _ _ (by rw [put_some]; exact k v w' hr)
end steps
section draws
variable {P : Program} {ops : Array Oper} {Q : Exit → Act → World → Prop} {S : World → Prop} {fuel : Nat} {lst : List Bool} {F : Fr} {D : List Deferred} {w : World} {i j k : Nat}
  {d : Tmp} {op : Op} {ty : TypeId} {pos : String} {af : Array Edge}
theorem D_start {id : Nat} {l : List Oper} {L : List Value} (N M : Nat) (S : World → World → Prop) (hm : P.follows .mixedOrders = true) (hN : l.length = N) (hM : L.length = M)
    (h : ∀ w1, Grow w w1 → wpAnyH P .any l.toArray Q (S w1) N (List.replicate N false).toArray ⟨(Fr.mk L M []).list.toArray, D⟩ w1) : (Code.region id l.toArray true).wp P Q ⟨L.toArray, D⟩ w := by
  subst hN
  subst hM
  refine wp_region_held (S := S w.drew) hm ?_
  have := h w.drew (grow_drew w)
  simpa [Fr.list, listU] using this
def tk (ops : Array Oper) (lst : List Bool) (i : Nat) : Bool := Region.noSelect ops && Region.free .any ops lst.toArray i && (Region.ready .any ops lst.toArray).contains i
theorem D_q {v : Value} (hi : ops[i]? = some ⟨some d, op, ty, pos, af, none⟩) (hc : tk ops lst i = true) (hQ : ∀ c a w, Q (.panic c) (a.put (some d) v) w → Q (.panic c) a w)
    (hS : S w) (hy : ∀ w', S w' → Yl P F op v w' w') (h : wpAnyH P .any ops Q S fuel (lst.set i true).toArray ⟨(F.put d v).list.toArray, D⟩ w) : wpAnyH P .any ops Q S (fuel + 1) lst.toArray ⟨F.list.toArray, D⟩ w := by
  simp only [tk, Bool.and_eq_true] at hc
  refine wpAnyH_take hi hc.1.1 hc.1.2 hc.2 hQ (.inl ⟨by simp [Region.wanted], fun w' hw' => hy w' hw' D _ _ _ _ _⟩) hS ?_
  rw [put_some, List.setIfInBounds_toArray]
  exact h
theorem D_qon {v : Value} {b : Bool} {t : Tmp} (hi : ops[i]? = some ⟨some d, op, ty, pos, af, some (j, b)⟩) (hj : (ops[j]?).bind (·.dst) = some t) (hv : F.get t = some (.bool b)) (hc : tk ops lst i = true) (hQ : ∀ c a w, Q (.panic c) (a.put (some d) v) w → Q (.panic c) a w)
    (hS : S w) (hy : ∀ w', S w' → Yl P F op v w' w') (h : wpAnyH P .any ops Q S fuel (lst.set i true).toArray ⟨(F.put d v).list.toArray, D⟩ w) : wpAnyH P .any ops Q S (fuel + 1) lst.toArray ⟨F.list.toArray, D⟩ w := by
  simp only [tk, Bool.and_eq_true] at hc
  have hy' : yielded ops F.list.toArray j = some b := by
    unfold yielded
    rw [hj]
    simp [F.at hv]
  refine wpAnyH_take hi hc.1.1 hc.1.2 hc.2 hQ (.inl ⟨by simp [Region.wanted, hy'], fun w' hw' => hy w' hw' D _ _ _ _ _⟩) hS ?_
  rw [put_some, List.setIfInBounds_toArray]
  exact h
theorem D_qoff {b : Bool} {t : Tmp} (hi : ops[i]? = some ⟨some d, op, ty, pos, af, some (j, b)⟩) (hj : (ops[j]?).bind (·.dst) = some t) (hv : F.get t = some (.bool (!b))) (hc : tk ops lst i = true) (hQ : ∀ c a w, Q (.panic c) (a.put (some d) undef) w → Q (.panic c) a w)
    (hS : S w) (h : wpAnyH P .any ops Q S fuel (lst.set i true).toArray ⟨(F.put d undef).list.toArray, D⟩ w) : wpAnyH P .any ops Q S (fuel + 1) lst.toArray ⟨F.list.toArray, D⟩ w := by
  simp only [tk, Bool.and_eq_true] at hc
  have hy' : yielded ops F.list.toArray j = some (!b) := by
    unfold yielded
    rw [hj]
    simp [F.at hv]
  have hne : ((some (!b) : Option Bool) == some b) = false := by cases b <;> rfl
  refine wpAnyH_take hi hc.1.1 hc.1.2 hc.2 hQ (.inr ⟨by simp only [Region.wanted, hy', hne], rfl⟩) hS ?_
  rw [put_some, List.setIfInBounds_toArray]
  exact h
theorem D_qoffU {b : Bool} {t : Tmp} (hi : ops[i]? = some ⟨some d, op, ty, pos, af, some (j, b)⟩) (hj : (ops[j]?).bind (·.dst) = some t) (hv : F.get t = some undef) (hc : tk ops lst i = true) (hQ : ∀ c a w, Q (.panic c) (a.put (some d) undef) w → Q (.panic c) a w)
    (hS : S w) (h : wpAnyH P .any ops Q S fuel (lst.set i true).toArray ⟨(F.put d undef).list.toArray, D⟩ w) : wpAnyH P .any ops Q S (fuel + 1) lst.toArray ⟨F.list.toArray, D⟩ w := by
  simp only [tk, Bool.and_eq_true] at hc
  have hy' : yielded ops F.list.toArray j = none := by
    unfold yielded
    rw [hj]
    simp [F.at hv, undef]
  refine wpAnyH_take hi hc.1.1 hc.1.2 hc.2 hQ (.inr ⟨by simp only [Region.wanted, hy']; rfl, rfl⟩) hS ?_
  rw [put_some, List.setIfInBounds_toArray]
  exact h
theorem Dq {v : Value} (hi : ops[i]? = some ⟨some d, op, ty, pos, af, none⟩)
    (hS : S w) (hy : ∀ w', S w' → Yl P F op v w' w') (h : wpAnyH P .any ops Q S fuel (lst.set i true).toArray ⟨(F.put d v).list.toArray, D⟩ w) (hc : tk ops lst i = true := by kernel_rfl) (hQ : ∀ c a w, Q (.panic c) (a.put (some d) v) w → Q (.panic c) a w := by first | exact fun _ _ _ h => h | exact fun _ _ _ h => (by cases h.1)) : wpAnyH P .any ops Q S (fuel + 1) lst.toArray ⟨F.list.toArray, D⟩ w := D_q hi hc hQ hS hy h
theorem Dqon {v : Value} {b : Bool} {t : Tmp} (hi : ops[i]? = some ⟨some d, op, ty, pos, af, some (j, b)⟩) (hj : (ops[j]?).bind (·.dst) = some t) (hv : F.get t = some (.bool b))
    (hS : S w) (hy : ∀ w', S w' → Yl P F op v w' w') (h : wpAnyH P .any ops Q S fuel (lst.set i true).toArray ⟨(F.put d v).list.toArray, D⟩ w) (hc : tk ops lst i = true := by kernel_rfl) (hQ : ∀ c a w, Q (.panic c) (a.put (some d) v) w → Q (.panic c) a w := by first | exact fun _ _ _ h => h | exact fun _ _ _ h => (by cases h.1)) : wpAnyH P .any ops Q S (fuel + 1) lst.toArray ⟨F.list.toArray, D⟩ w := D_qon hi hj hv hc hQ hS hy h
theorem Dqoff {b : Bool} {t : Tmp} (hi : ops[i]? = some ⟨some d, op, ty, pos, af, some (j, b)⟩) (hj : (ops[j]?).bind (·.dst) = some t) (hv : F.get t = some (.bool (!b)))
    (hS : S w) (h : wpAnyH P .any ops Q S fuel (lst.set i true).toArray ⟨(F.put d undef).list.toArray, D⟩ w) (hc : tk ops lst i = true := by kernel_rfl) (hQ : ∀ c a w, Q (.panic c) (a.put (some d) undef) w → Q (.panic c) a w := by first | exact fun _ _ _ h => h | exact fun _ _ _ h => (by cases h.1)) : wpAnyH P .any ops Q S (fuel + 1) lst.toArray ⟨F.list.toArray, D⟩ w := D_qoff hi hj hv hc hQ hS h
theorem DqoffU {b : Bool} {t : Tmp} (hi : ops[i]? = some ⟨some d, op, ty, pos, af, some (j, b)⟩) (hj : (ops[j]?).bind (·.dst) = some t) (hv : F.get t = some undef)
    (hS : S w) (h : wpAnyH P .any ops Q S fuel (lst.set i true).toArray ⟨(F.put d undef).list.toArray, D⟩ w) (hc : tk ops lst i = true := by kernel_rfl) (hQ : ∀ c a w, Q (.panic c) (a.put (some d) undef) w → Q (.panic c) a w := by first | exact fun _ _ _ h => h | exact fun _ _ _ h => (by cases h.1)) : wpAnyH P .any ops Q S (fuel + 1) lst.toArray ⟨F.list.toArray, D⟩ w := D_qoffU hi hj hv hc hQ hS h
theorem D_g (t : Tmp) {b : Bool} (hv : F.get t = some (.bool b)) (ht : b = true → wpAnyH P .any ops Q S fuel lst.toArray ⟨(F.put t (.bool true)).list.toArray, D⟩ w) (hf : b = false → wpAnyH P .any ops Q S fuel lst.toArray ⟨(F.put t (.bool false)).list.toArray, D⟩ w) :
    wpAnyH P .any ops Q S fuel lst.toArray ⟨F.list.toArray, D⟩ w := by
  have e := set_self (F.at hv)
  cases b
  · have := hf rfl
    rwa [Fr.list_put, e] at this
  · have := ht rfl
    rwa [Fr.list_put, e] at this
/-- Operation number i comes up. -/
def dOp (P : Program) (ops : Array Oper) (Q : Exit → Act → World → Prop) (S : World → Prop) (fuel : Nat) (lst : List Bool) (a : Act) (w : World) (i : Nat) : Prop :=
  wpOp P ops Q i (fun a' w' => S w' ∧ wpAnyH P .any ops Q S fuel (lst.set i true).toArray a' w') a w
theorem D_1 {a : Act} (hr : Region.ready .any ops lst.toArray = [i]) (h : dOp P ops Q S fuel lst a w i) : wpAnyH P .any ops Q S (fuel + 1) lst.toArray a w :=
  wpAnyH_all hr (by simp) (by simpa [dOp, List.setIfInBounds_toArray] using h)
theorem D_2 {a : Act} (hr : Region.ready .any ops lst.toArray = [i, j]) (h : dOp P ops Q S fuel lst a w i) (h' : dOp P ops Q S fuel lst a w j) : wpAnyH P .any ops Q S (fuel + 1) lst.toArray a w :=
  wpAnyH_all hr (by simp) (by simpa [dOp, List.setIfInBounds_toArray] using ⟨h, h'⟩)
theorem D_3 {a : Act} (hr : Region.ready .any ops lst.toArray = [i, j, k]) (h : dOp P ops Q S fuel lst a w i) (h' : dOp P ops Q S fuel lst a w j) (h'' : dOp P ops Q S fuel lst a w k) : wpAnyH P .any ops Q S (fuel + 1) lst.toArray a w :=
  wpAnyH_all hr (by simp) (by simpa [dOp, List.setIfInBounds_toArray] using ⟨h, h', h''⟩)
theorem E_val {v : Value} {w' : World} (hi : ops[i]? = some ⟨some d, op, ty, pos, af, none⟩) (hy : Yl P F op v w w') (hS : S w') (h : wpAnyH P .any ops Q S fuel (lst.set i true).toArray ⟨(F.put d v).list.toArray, D⟩ w') : dOp P ops Q S fuel lst ⟨F.list.toArray, D⟩ w i := by
  unfold dOp wpOp
  simp only [hi]
  rw [if_pos (by simp [Region.wanted])]
  refine .inl ?_
  unfold Oper.wp
  rw [hy]
  refine ⟨hS, ?_⟩
  rw [put_some]
  exact h
theorem E_st {w' : World} (hi : ops[i]? = some ⟨none, op, ty, pos, af, none⟩) (hy : Ys P F op w w') (hS : S w') (h : wpAnyH P .any ops Q S fuel (lst.set i true).toArray ⟨F.list.toArray, D⟩ w') : dOp P ops Q S fuel lst ⟨F.list.toArray, D⟩ w i := by
  unfold dOp wpOp
  simp only [hi]
  rw [if_pos (by simp [Region.wanted])]
  refine .inl ?_
  unfold Oper.wp
  rw [hy]
  exact ⟨hS, h⟩
/-- A guarded operation whose guard says yes. -/
theorem E_on {dst : Option Tmp} {b : Bool} {t : Tmp} (hi : ops[i]? = some ⟨dst, op, ty, pos, af, some (j, b)⟩) (hj : (ops[j]?).bind (·.dst) = some t) (hv : F.get t = some (.bool b))
    (h : Oper.wp P ⟨dst, op, ty, pos, af, none⟩ ⟨F.list.toArray, D⟩ w (fun a' w' => S w' ∧ wpAnyH P .any ops Q S fuel (lst.set i true).toArray a' w') Q) : dOp P ops Q S fuel lst ⟨F.list.toArray, D⟩ w i := by
  have hy' : yielded ops F.list.toArray j = some b := by
    unfold yielded
    rw [hj]
    simp [F.at hv]
  unfold dOp wpOp
  simp only [hi]
  rw [if_pos (by simp [Region.wanted, hy'])]
  exact .inl h
theorem E_call {f : FuncId} {xs : List Operand} {ats : Array TypeId} {vs : List Value} {R : Value → World → Prop} (hi : ops[i]? = some ⟨some d, .call ⟨.value (.func f), xs.toArray, ats⟩, ty, pos, af, none⟩) (ha : evs F xs = some vs) (hf : Enters P f) (hc : Calls P f vs.toArray w (Ret R))
    (h : ∀ v w', R v w' → S w' ∧ wpAnyH P .any ops Q S fuel (lst.set i true).toArray ⟨(F.put d v).list.toArray, D⟩ w') : dOp P ops Q S fuel lst ⟨F.list.toArray, D⟩ w i := by
  unfold dOp wpOp
  simp only [hi]
  rw [if_pos (by simp [Region.wanted])]
  refine .inl ?_
  have hm := evs_eval (D := D) ha
  unfold Oper.wp execOp
  simp only [resolve, Deferred.ofValue, Act.eval, Sem.run_bind, Sem.run_pure, Result.andThen_ok, invoke, Array.append_empty, List.map_toArray]
  rw [show (xs.map (Act.mk F.list.toArray D).eval) = vs from hm]
  simp only [Array.empty_append, hf _ _, Oper.upon]
  refine hc.mono fun e w' ⟨v, he, hr⟩ => ?_
  subst he
  have h9 := h v w' hr
  rw [← put_some] at h9
  exact h9
theorem E_calln {f : FuncId} {xs : List Operand} {ats : Array TypeId} {vs : List Value} {R : Value → World → Prop} {b : Bool} {t : Tmp} (hi : ops[i]? = some ⟨some d, .call ⟨.value (.func f), xs.toArray, ats⟩, ty, pos, af, some (j, b)⟩)
    (hj : (ops[j]?).bind (·.dst) = some t) (hv : F.get t = some (.bool b)) (ha : evs F xs = some vs) (hf : Enters P f) (hc : Calls P f vs.toArray w (Ret R))
    (h : ∀ v w', R v w' → S w' ∧ wpAnyH P .any ops Q S fuel (lst.set i true).toArray ⟨(F.put d v).list.toArray, D⟩ w') : dOp P ops Q S fuel lst ⟨F.list.toArray, D⟩ w i := by
  refine E_on hi hj hv ?_
  have hm := evs_eval (D := D) ha
  unfold Oper.wp execOp
  simp only [resolve, Deferred.ofValue, Act.eval, Sem.run_bind, Sem.run_pure, Result.andThen_ok, invoke, Array.append_empty, List.map_toArray]
  rw [show (xs.map (Act.mk F.list.toArray D).eval) = vs from hm]
  simp only [Array.empty_append, hf _ _, Oper.upon]
  refine hc.mono fun e w' ⟨v, he, hr⟩ => ?_
  subst he
  have h9 := h v w' hr
  rw [← put_some] at h9
  exact h9
theorem E_callc {f : FuncId} {x : Operand} {xs : List Operand} {ats : Array TypeId} {vs cs : List Value} {R : Value → World → Prop} (hi : ops[i]? = some ⟨some d, .call ⟨.value x, xs.toArray, ats⟩, ty, pos, af, none⟩)
    (hx : ev F x = some (.func (.func f) #[] cs.toArray)) (ha : evs F xs = some vs) (hf : Enters P f) (hc : Calls P f (vs ++ cs).toArray w (Ret R))
    (h : ∀ v w', R v w' → S w' ∧ wpAnyH P .any ops Q S fuel (lst.set i true).toArray ⟨(F.put d v).list.toArray, D⟩ w') : dOp P ops Q S fuel lst ⟨F.list.toArray, D⟩ w i := by
  unfold dOp wpOp
  simp only [hi]
  rw [if_pos (by simp [Region.wanted])]
  refine .inl ?_
  have hm := evs_eval (D := D) ha
  have he := ev_eval (D := D) hx
  unfold Oper.wp execOp
  simp only [resolve, he, Deferred.ofValue, Sem.run_bind, Sem.run_pure, Result.andThen_ok, invoke, List.map_toArray]
  rw [show (xs.map (Act.mk F.list.toArray D).eval) = vs from hm]
  simp only [List.append_toArray, hf _ _, Oper.upon]
  refine hc.mono fun e w' ⟨v, he, hr⟩ => ?_
  subst he
  have h9 := h v w' hr
  rw [← put_some] at h9
  exact h9
theorem D_end {L' : List Value} (hr : Region.ready .any ops lst.toArray = []) (hN : F.base.length = F.n) (hL : tabU F 0 F.n = L'.map some) (h : Q .normal ⟨L'.toArray, D⟩ w) : wpAnyH P .any ops Q S fuel lst.toArray ⟨F.list.toArray, D⟩ w := by
  rw [tab_list (list_len hN) hL]
  exact wpAnyH_done hr h fuel
theorem D_en {L' : List Value} (hr : Region.ready .any ops lst.toArray = []) (hN : F.base.length = F.n) (hL : unO (tabU F 0 F.n) = some L') (h : Q .normal ⟨L'.toArray, D⟩ w) : wpAnyH P .any ops Q S fuel lst.toArray ⟨F.list.toArray, D⟩ w := D_end hr hN (unO_map hL) h
theorem D_cut {c : Code} {a : Act} (J : Act → World → Prop) (h : c.wp P (fun e a' w' => e = .normal ∧ J a' w') a w) (k : ∀ a' w', J a' w' → Q .normal a' w') : c.wp P Q a w :=
  wp_mono h fun _ _ _ ⟨he, hj⟩ => by subst he; exact k _ _ hj
end draws
section control
variable {P : Program} {Q : Exit → Act → World → Prop} {K : Act → World → Prop} {a : Act} {w : World}
theorem th_n (h : K a w) : Exit.then K Q .normal a w := h
theorem th_x {i : Nat} (h : Q (.exit i) a w) : Exit.then K Q (.exit i) a w := h
theorem th_r (h : Q .ret a w) : Exit.then K Q .ret a w := h
theorem ib_n {j : Nat} (h : Q .normal a w) : Exit.inBlock j Q .normal a w := h
theorem ib_r {j : Nat} (h : Q .ret a w) : Exit.inBlock j Q .ret a w := h
theorem ib_e {j : Nat} (h : Q .normal a w) : Exit.inBlock j Q (.exit j) a w := by simpa [Exit.inBlock] using h
theorem S_if {c : Operand} {x y : Code} {b : Bool} {L : List Value} {D : List Deferred} (hc : evL L c = some (.bool b)) (ht : b = true → x.wp P Q ⟨L.toArray, D⟩ w) (hf : b = false → y.wp P Q ⟨L.toArray, D⟩ w) : (Code.cond c x y).wp P Q ⟨L.toArray, D⟩ w :=
  wp_cond_split (evL_eval hc) ht hf
theorem S_ifT {c : Operand} {x y : Code} {L : List Value} {D : List Deferred} (hc : evL L c = some (.bool true)) (ht : x.wp P Q ⟨L.toArray, D⟩ w) : (Code.cond c x y).wp P Q ⟨L.toArray, D⟩ w :=
  wp_cond_true (evL_eval hc) ht
theorem S_ifF {c : Operand} {x y : Code} {L : List Value} {D : List Deferred} (hc : evL L c = some (.bool false)) (hf : y.wp P Q ⟨L.toArray, D⟩ w) : (Code.cond c x y).wp P Q ⟨L.toArray, D⟩ w :=
  wp_cond_false (evL_eval hc) hf
theorem enter {f : FuncId} {fn : Func} {c : Code} {args : List Value} {n : Nat} {R : Ending → World → Prop} {L : List Value} (hf : P.funcs[f]? = some fn) (hb : fn.body = some c) (hn : fn.ntmps = n)
    (hL : args ++ List.replicate (n - args.length) undef = L) (h : c.wp P (bodyPost P fn R) ⟨L.toArray, []⟩ w) : Calls P f args.toArray w R := by
  refine calls_of_wp hf hb ?_
  subst hn
  subst hL
  have e : args.toArray ++ Array.replicate (fn.ntmps - args.toArray.size) undef = (args ++ List.replicate (fn.ntmps - args.length) undef).toArray := by
    simp
  rw [e]
  exact h
theorem ret_n0 {fn : Func} {R : Value → World → Prop} {L : List Value} (hr : fn.results = #[]) (h : R (.tuple #[]) w) : bodyPost P fn (Ret R) .normal ⟨L.toArray, []⟩ w :=
  ⟨rfl, .tuple #[], by simp [results, hr], _, rfl, h⟩
theorem ret_r1 {fn : Func} {R : Value → World → Prop} {L : List Value} {t : Tmp} {v : Value} (hr : fn.results = #[.tmp t]) (hv : L[t]? = some v) (h : R v w) : bodyPost P fn (Ret R) .ret ⟨L.toArray, []⟩ w :=
  ⟨rfl, v, by simp [results, hr, Array.getD_eq_getD_getElem?, hv], _, rfl, h⟩
theorem ret_r2 {fn : Func} {R : Value → World → Prop} {L : List Value} {t t' : Tmp} {v v' : Value} (hr : fn.results = #[.tmp t, .tmp t']) (hv : L[t]? = some v) (hv' : L[t']? = some v') (h : R (.tuple #[v, v']) w) :
    bodyPost P fn (Ret R) .ret ⟨L.toArray, []⟩ w :=
  ⟨rfl, .tuple #[v, v'], by simp [results, hr, Array.getD_eq_getD_getElem?, hv, hv'], _, rfl, h⟩
end control
end
/-! Mem -/
section
open Go Go.RowKit
/-- The cells from an address on are these. -/
def CellsAt (w : World) (g o : Nat) (cs : List Value) : Prop := ∀ j u, cs[j]? = some u → w.cell? ⟨g, o + j, none⟩ = some u
section
variable {w w' : World} {S : Nat → Prop} {g o : Nat} {cs : List Value}
theorem CellsAt.at {j : Nat} {u : Value} (h : CellsAt w g o cs) (hj : cs[j]? = some u) : w.cell? ⟨g, o + j, none⟩ = some u := h j u hj
theorem CellsAt.mod (h : CellsAt w g o cs) (m : Mod S w w') (hn : ¬ S g) : CellsAt w' g o cs := fun j u hu => m.cell (h j u hu) hn
theorem CellsAt.md (h : CellsAt w g o cs) (m : Mod S w w') (hn : ¬ S g := by intro h; first | omega | (dsimp only at h; omega)) : CellsAt w' g o cs := h.mod m hn
theorem CellsAt.grow (h : CellsAt w g o cs) (m : Grow w w') : CellsAt w' g o cs := h.mod m (fun h => h)
theorem Mod.cell0 (m : Grow w w') {v : Value} (hc : w.cell? ⟨g, o, none⟩ = some v) : w'.cell? ⟨g, o, none⟩ = some v := m.cell hc (fun h => h)
theorem Mod.cells0 (m : Grow w w') (h : CellsAt w g o cs) : CellsAt w' g o cs := h.grow m
theorem Blk.row {b : Nat} {e : TypeId} {arr : Array Value} (h : Blk w b e arr) (ha : arr = cs.toArray) : CellsAt w b 0 cs := fun j u hu => by
  subst ha
  rw [Nat.zero_add]
  exact h.at (by simpa using hu)
end
/-- A cell that reads v, as a fact that can be carried along. -/
def CellIs (w : World) (g o : Nat) (v : Value) : Prop := w.cell? ⟨g, o, none⟩ = some v
theorem CellIs.grow {w w' : World} {g o : Nat} {v : Value} (h : CellIs w g o v) (m : Grow w w') : CellIs w' g o v := m.cell0 h
def ints (xs : List Int) : List Value := xs.map (Value.int .i64)
def bools (bs : List Bool) : List Value := bs.map Value.bool
theorem ints_get {xs : List Int} {k : Nat} {x : Int} (h : xs[k]? = some x) : (ints xs)[k]? = some (.int .i64 x) := by simp [ints, h]
theorem bools_get {xs : List Bool} {k : Nat} {x : Bool} (h : xs[k]? = some x) : (bools xs)[k]? = some (.bool x) := by simp [bools, h]
theorem ints_len (xs : List Int) : (ints xs).length = xs.length := by simp [ints]
theorem bools_len (xs : List Bool) : (bools xs).length = xs.length := by simp [bools]
/-- A slice of one-cell elements reads as us; its block meets Pr. -/
def R1 (Pr : Nat → Prop) (w : World) (A : Option Addr) (us : List Value) : Prop :=
  ∀ k u, us[k]? = some u → ∃ g o, A = some ⟨g, o, none⟩ ∧ Pr g ∧ w.cell? ⟨g, o + k * 1, none⟩ = some u
section
variable {w w' : World} {S Pr Pr' : Nat → Prop} {A : Option Addr} {us : List Value}
theorem R1.mod (h : R1 Pr w A us) (m : Mod S w w') (hd : ∀ k, Pr k → ¬ S k) : R1 Pr w' A us := fun k u hu => by
  obtain ⟨g, o, hA, hp, hc⟩ := h k u hu
  exact ⟨g, o, hA, hp, m.cell hc (hd g hp)⟩
theorem R1.md (h : R1 Pr w A us) (m : Mod S w w') (hd : ∀ k, Pr k → ¬ S k := by intro k hk h; first | omega | (dsimp only at hk h; omega) | (dsimp only at hk; omega)) : R1 Pr w' A us := h.mod m hd
theorem R1.grow (h : R1 Pr w A us) (m : Grow w w') : R1 Pr w' A us := h.mod m (fun _ _ h => h)
theorem R1.weak (h : R1 Pr w A us) (hp : ∀ k, Pr k → Pr' k) : R1 Pr' w A us := fun k u hu => by
  obtain ⟨g, o, hA, h1, hc⟩ := h k u hu
  exact ⟨g, o, hA, hp g h1, hc⟩
theorem R1.nil (Pr : Nat → Prop) (w : World) (A : Option Addr) : R1 Pr w A [] := fun k u hu => by simp at hu
theorem R1.int {xs : List Int} (h : R1 Pr w A (ints xs)) {k : Nat} (hk : k < xs.length) : ∃ g o, A = some ⟨g, o, none⟩ ∧ Pr g ∧ w.cell? ⟨g, o + k * 1, none⟩ = some (.int .i64 xs[k]) := h k _ (ints_get (by simp [hk]))
theorem R1.bool {xs : List Bool} (h : R1 Pr w A (bools xs)) {k : Nat} (hk : k < xs.length) : ∃ g o, A = some ⟨g, o, none⟩ ∧ Pr g ∧ w.cell? ⟨g, o + k * 1, none⟩ = some (.bool xs[k]) := h k _ (bools_get (by simp [hk]))
end
/-- A cell of a heap, as data. -/
structure LC where
  used : Bool
  data : Int
  refs : List Int
/-- A heap, as data. -/
structure LH where
  cells : List LC
  roots : List Int
/-- A slice of cells of a heap reads as cs. -/
def RC (Pr : Nat → Prop) (w : World) (A : Option Addr) (cs : List LC) : Prop :=
  ∀ k c, cs[k]? = some c → ∃ g o B d, A = some ⟨g, o, none⟩ ∧ Pr g ∧ CellsAt w g (o + k * 3) [.bool c.used, .int .i64 c.data, .slice B c.refs.length d] ∧ R1 Pr w B (ints c.refs)
section
variable {w w' : World} {S Pr Pr' : Nat → Prop} {A : Option Addr} {cs : List LC}
theorem RC.mod (h : RC Pr w A cs) (m : Mod S w w') (hd : ∀ k, Pr k → ¬ S k) : RC Pr w' A cs := fun k c hc => by
  obtain ⟨g, o, B, d, hA, hp, h1, h2⟩ := h k c hc
  exact ⟨g, o, B, d, hA, hp, h1.mod m (hd g hp), h2.mod m hd⟩
theorem RC.md (h : RC Pr w A cs) (m : Mod S w w') (hd : ∀ k, Pr k → ¬ S k := by intro k hk h; first | omega | (dsimp only at hk h; omega) | (dsimp only at hk; omega)) : RC Pr w' A cs := h.mod m hd
theorem RC.grow (h : RC Pr w A cs) (m : Grow w w') : RC Pr w' A cs := h.mod m (fun _ _ h => h)
theorem RC.weak (h : RC Pr w A cs) (hp : ∀ k, Pr k → Pr' k) : RC Pr' w A cs := fun k c hc => by
  obtain ⟨g, o, B, d, hA, h0, h1, h2⟩ := h k c hc
  exact ⟨g, o, B, d, hA, hp g h0, h1, h2.weak hp⟩
theorem RC.cell (h : RC Pr w A cs) {k : Nat} (hk : k < cs.length) : ∃ g o B d, A = some ⟨g, o, none⟩ ∧ Pr g ∧ CellsAt w g (o + k * 3) [.bool cs[k].used, .int .i64 cs[k].data, .slice B cs[k].refs.length d] ∧ R1 Pr w B (ints cs[k].refs) := h k _ (by simp [hk])
end
theorem R1.below {Pr : Nat → Prop} {w : World} {A : Option Addr} {us : List Value} (h : R1 Pr w A us) : R1 (fun k => k < w.heap.size) w A us := fun k u hu => by
  obtain ⟨g, o, hA, _, hc⟩ := h k u hu
  exact ⟨g, o, hA, World.block_lt_of_cell? w _ hc, hc⟩
theorem RC.below {Pr : Nat → Prop} {w : World} {A : Option Addr} {cs : List LC} (h : RC Pr w A cs) : RC (fun k => k < w.heap.size) w A cs := fun k c hc => by
  obtain ⟨g, o, B, d, hA, _, h1, h2⟩ := h k c hc
  exact ⟨g, o, B, d, hA, World.block_lt_of_cell? w _ (h1.at (j := 0) rfl), h1, h2.below⟩
theorem nb_tt {p : Prop} [Decidable p] (h : decide p = true) : p := of_decide_eq_true h
theorem nb_tf {p : Prop} [Decidable p] (h : decide p = false) : ¬ p := of_decide_eq_false h
theorem nb_nt {p : Prop} [Decidable p] (h : (!decide p) = true) : ¬ p := by simpa using h
theorem nb_nf {p : Prop} [Decidable p] (h : (!decide p) = false) : p := by simpa using h
theorem nb_bt {b : Bool} (h : (!b) = true) : b = false := by simpa using h
theorem nb_bf {b : Bool} (h : (!b) = false) : b = true := by simpa using h
theorem dec_nat {n k : Nat} (h : k < n) : n - (k + 1) < n - k := by omega
end
/-! Ops -/
section
open Go Go.RowKit
def sz (P : Program) (e : TypeId) : Option Nat := (P.info? e).map (·.size)
def zr (P : Program) (e : TypeId) : Option Value := (P.info? e).bind (·.zero)
def aggT : TypeDesc → Bool
  | .struct _ | .array _ _ => true
  | _ => false
section
variable {P : Program} {F : Fr} {w : World}
theorem sz_run {e : TypeId} {n : Nat} (h : sz P e = some n) (w : World) : (sizeOf e).run P w = .ok n w := by
  unfold sz at h
  obtain ⟨i, hi, he⟩ := Option.map_eq_some_iff.1 h
  simp [sizeOf, typeInfo, hi, he]
theorem zr_run {e : TypeId} {z : Value} (h : zr P e = some z) (w : World) : (zeroValue e).run P w = .ok z w := by
  unfold zr at h
  obtain ⟨i, hi, he⟩ := Option.bind_eq_some_iff.1 h
  simp [zeroValue, typeInfo, hi, he]
theorem agg_run {t : TypeId} {d : TypeDesc} (h : P.underlying t = some d) (w : World) : (isAgg t).run P w = .ok (aggT d) w := by
  cases d <;> simp [isAgg, run_underlying h, aggT]
theorem Y_move {x : Operand} {v : Value} (h : ev F x = some v) : Yl P F (.move x) v w w := fun D _ _ _ _ _ => by
  simp [execOp, ev_eval (D := D) h]
theorem Y_assign {x : Operand} {v : Value} (h : ev F x = some v) : Yl P F (.assign x) v w w := fun D _ _ _ _ _ => by
  simp [execOp, ev_eval (D := D) h]
theorem Y_nil {x : Operand} {a : Addr} (h : ev F x = some (.pointer (some a))) : Yl P F (.nilCheck x) (.pointer (some a)) w w := fun D _ _ _ _ _ => by
  simp [execOp, ev_eval (D := D) h]
theorem Y_pickT {c a b : Operand} {v : Value} (hc : ev F c = some (.bool true)) (h : ev F a = some v) : Yl P F (.pick c a b) v w w := fun D _ _ _ _ _ => by
  simp [execOp, ev_eval (D := D) hc, ev_eval (D := D) h, asBool]
theorem Y_pickF {c a b : Operand} {v : Value} (hc : ev F c = some (.bool false)) (h : ev F b = some v) : Yl P F (.pick c a b) v w w := fun D _ _ _ _ _ => by
  simp [execOp, ev_eval (D := D) hc, ev_eval (D := D) h, asBool]
theorem Y_box {e : TypeId} {x : Operand} {v : Value} (h : ev F x = some v) : Yl P F (.box e x) (.pointer (some ⟨w.heap.size, 0, none⟩)) w (w.alloc (.cells v.cells e)) := fun D _ _ _ _ _ => by
  simp [execOp, ev_eval (D := D) h, Instr.box, newVar, newRow]
theorem Y_alloc {e : TypeId} {z : Value} (hz : zr P e = some z) : Yl P F (.alloc e) (.pointer (some ⟨w.heap.size, 0, none⟩)) w (w.alloc (.cells z.cells e)) := fun _ _ _ _ _ _ => by
  simp [execOp, Instr.alloc, zr_run hz, newVar, newRow]
theorem Y_makeFunc {f : Fn} {fs xs : List Operand} {us vs : List Value} (h1 : evs F fs = some us) (h2 : evs F xs = some vs) : Yl P F (.makeFunc f fs.toArray xs.toArray) (.func f us.toArray vs.toArray) w w := fun D _ _ _ _ _ => by
  simp [execOp, Instr.makeFunc, evs_eval (D := D) h1, evs_eval (D := D) h2]
theorem Y_load {t : TypeId} {x : Operand} {a : Addr} {d : TypeDesc} {v : Value} (ht : P.underlying t = some d) (hd : aggT d = false) (hx : ev F x = some (.pointer (some a))) (hc : w.cell? a = some v) : Yl P F (.load t x) v w w :=
  fun D _ _ _ _ _ => by
    simp [execOp, ev_eval (D := D) hx, Instr.loadAt, Instr.sureAddr, loadVar, agg_run ht, hd, hc]
/-- A struct is loaded: its cells. -/
theorem Y_loadS {t : TypeId} {x : Operand} {g o n : Nat} {d : TypeDesc} {cs : List Value} (ht : P.underlying t = some d) (hd : aggT d = true) (hs : sz P t = some n) (hx : ev F x = some (.pointer (some ⟨g, o, none⟩)))
    (hc : CellsAt w g o cs) (hn : cs.length = n := by rfl) : Yl P F (.load t x) (.agg cs.toArray) w w :=
  fun D _ _ _ _ _ => by
    subst hn
    have h := run_loadCells_list (P := P) w ⟨g, o, none⟩ cs (fun j u hu => by rw [Addr.add_lit]; exact hc j u hu)
    simp [execOp, ev_eval (D := D) hx, Instr.loadAt, Instr.sureAddr, loadVar, agg_run ht, hd, sz_run hs, h]
theorem Y_field {s : TypeId} {x : Operand} {k : Nat} {g o : Nat} {fs : Array Field} {f : Field} {n : Nat} (hu : P.underlying s = some (.struct fs)) (hf : fs[k]? = some f) (hn : sz P f.type = some n) (h0 : n ≠ 0)
    (hx : ev F x = some (.pointer (some ⟨g, o, none⟩))) : Yl P F (.fieldAddr s x k) (.pointer (some ⟨g, o + f.offset, none⟩)) w w :=
  fun D _ _ _ _ _ => by
    simp [execOp, ev_eval (D := D) hx, Instr.fieldAt, Instr.sureAddr, run_underlying hu, hf, fieldPlace, sz_run hn, h0, Addr.add_lit]
theorem Y_index {t e : TypeId} {x y : Operand} {g o n c : Nat} {k : IntKind} {i s : Nat} (hu : P.underlying t = some (.slice e)) (hs : sz P e = some s) (hx : ev F x = some (.slice (some ⟨g, o, none⟩) n c)) (hy : ev F y = some (.int k (i : Int))) (hi : i < n) :
    Yl P F (.indexAddr t x y) (.pointer (some ⟨g, o + i * s, none⟩)) w w :=
  fun D _ _ _ _ _ => by
    have h2 : (i : Int) < n := by omega
    simp [execOp, ev_eval (D := D) hx, ev_eval (D := D) hy, Instr.indexAt, asIntOf, run_underlying hu, sz_run hs, hi, Addr.add_lit]
theorem Y_len {t : TypeId} {e : TypeId} {x : Operand} {A : Option Addr} {n c : Nat} (hu : P.underlying t = some (.slice e)) (hx : ev F x = some (.slice A n c)) : Yl P F (.call ⟨.builtin .len, #[x], #[t]⟩) (.int .i64 (n : Int)) w w :=
  fun D _ _ _ _ _ => by
    simp [execOp, resolve, invoke, builtin, ev_eval (D := D) hx, Builtin.len_, run_underlying hu, goInt]
theorem Y_extract {x : Operand} {vs : Array Value} {i : Nat} {v : Value} (hx : ev F x = some (.tuple vs)) (hi : vs[i]? = some v) : Yl P F (.extract x i) v w w := fun D _ _ _ _ _ => by
  simp [execOp, ev_eval (D := D) hx, Instr.extract, hi]
theorem Y_not {t : TypeId} {x : Operand} {b : Bool} (hx : ev F x = some (.bool b)) : Yl P F (.unOp .not t x) (.bool (!b)) w w := fun D _ _ _ _ _ => by
  simp [execOp, ev_eval (D := D) hx, Op.unary]
section cmp
variable {t t' : TypeId} {x y : Operand} {k : IntKind} {a b : Int}
theorem Y_lss (hx : ev F x = some (.int k a)) (hy : ev F y = some (.int k b)) : Yl P F (.binOp .lss t x y t') (.bool (decide (a < b))) w w := fun D _ _ _ _ _ => by
  simp [execOp, ev_eval (D := D) hx, ev_eval (D := D) hy, eqGuard_lss, binOp_lss]
theorem Y_leq (hx : ev F x = some (.int k a)) (hy : ev F y = some (.int k b)) : Yl P F (.binOp .leq t x y t') (.bool (decide (a ≤ b))) w w := fun D _ _ _ _ _ => by
  simp [execOp, ev_eval (D := D) hx, ev_eval (D := D) hy, eqGuard_leq, binOp_leq]
theorem Y_gtr (hx : ev F x = some (.int k a)) (hy : ev F y = some (.int k b)) : Yl P F (.binOp .gtr t x y t') (.bool (decide (b < a))) w w := fun D _ _ _ _ _ => by
  simp [execOp, ev_eval (D := D) hx, ev_eval (D := D) hy, eqGuard_gtr, binOp_gtr]
theorem Y_geq (hx : ev F x = some (.int k a)) (hy : ev F y = some (.int k b)) : Yl P F (.binOp .geq t x y t') (.bool (decide (b ≤ a))) w w := fun D _ _ _ _ _ => by
  simp [execOp, ev_eval (D := D) hx, ev_eval (D := D) hy, eqGuard_geq, binOp_geq]
theorem Y_eql (hx : ev F x = some (.int k a)) (hy : ev F y = some (.int k b)) : Yl P F (.binOp .eql t x y t') (.bool (decide (a = b))) w w := fun D _ _ _ _ _ => by
  simp [execOp, ev_eval (D := D) hx, ev_eval (D := D) hy, eqGuard_at_int, binOp_eql]
  rfl
theorem Y_neq (hx : ev F x = some (.int k a)) (hy : ev F y = some (.int k b)) : Yl P F (.binOp .neq t x y t') (.bool (!decide (a = b))) w w := fun D _ _ _ _ _ => by
  simp [execOp, ev_eval (D := D) hx, ev_eval (D := D) hy, eqGuard_at_int, binOp_neq]
  rfl
theorem run_equalIn_bool (n : Nat) {t : TypeId} (hu : P.underlying t = some .bool) (a b : Bool) : (Op.equalIn (n + 1) t (.bool a) (.bool b)).run P w = .ok (decide (a = b)) w := by
  cases a <;> cases b <;> simp [Op.equalIn, run_underlying hu]
theorem run_equal_bool {t : TypeId} (hu : P.underlying t = some .bool) (a b : Bool) : (Op.equal t (.bool a) (.bool b)).run P w = .ok (decide (a = b)) w := run_equalIn_bool 9999 hu a b
theorem Y_neb {a b : Bool} (hu : P.underlying t = some .bool) (hx : ev F x = some (.bool a)) (hy : ev F y = some (.bool b)) : Yl P F (.binOp .neq t x y t') (.bool (!decide (a = b))) w w := fun D _ _ _ _ _ => by
  simp [execOp, ev_eval (D := D) hx, ev_eval (D := D) hy, eqGuard_at_bool, binOp, run_equal_bool hu]
theorem Y_add {c : Int} (hx : ev F x = some (.int .i64 a)) (hy : ev F y = some (.int .i64 b)) (hc : a + b = c) (h1 : -9223372036854775808 ≤ c) (h2 : c ≤ 9223372036854775807) : Yl P F (.binOp .add t x y t') (.int .i64 c) w w := fun D _ _ _ _ _ => by
  subst hc
  simp [execOp, ev_eval (D := D) hx, ev_eval (D := D) hy, eqGuard_add, binOp_add, Op.intArith]
  rw [IntKind.wrap_i64]
  omega
theorem Y_sub {c : Int} (hx : ev F x = some (.int .i64 a)) (hy : ev F y = some (.int .i64 b)) (hc : a - b = c) (h1 : -9223372036854775808 ≤ c) (h2 : c ≤ 9223372036854775807) : Yl P F (.binOp .sub t x y t') (.int .i64 c) w w := fun D _ _ _ _ _ => by
  subst hc
  simp [execOp, ev_eval (D := D) hx, ev_eval (D := D) hy, eqGuard_sub, binOp_sub, Op.intArith]
  rw [IntKind.wrap_i64]
  omega
theorem Y_inc {k : Nat} (hx : ev F x = some (.int .i64 (k : Int))) (hy : ev F y = some (.int .i64 1)) (h : k + 1 ≤ 9223372036854775807) : Yl P F (.binOp .add t x y t') (.int .i64 ((k + 1 : Nat) : Int)) w w :=
  Y_add hx hy (by omega) (by omega) (by omega)
end cmp
end
section
variable {P : Program} {ops : Array Oper} {Q : Exit → Act → World → Prop} {rest : List Oper} {F : Fr} {D : List Deferred} {w : World}
  {d : Tmp} {ty : TypeId} {pos : String} {af : Array Edge} {e t : TypeId} {x y : Operand}
theorem S_box {v : Value} {cs : List Value} (h : ev F x = some v) (hc : v.cells = cs.toArray)
    (k : ∀ b w', w.heap.size ≤ b → Grow w w' → Blk w' b e cs.toArray → wpList P ops Q rest ⟨(F.put d (.pointer (some ⟨b, 0, none⟩))).list.toArray, D⟩ w') :
    wpList P ops Q (⟨some d, .box e x, ty, pos, af, none⟩ :: rest) ⟨F.list.toArray, D⟩ w :=
  S_val (Y_box h) (k _ _ (Nat.le_refl _) (grow_alloc _ _) (by rw [← hc]; exact Blk.new _ _ _))
theorem S_alloc {z : Value} {cs : List Value} (hz : zr P e = some z) (hc : z.cells = cs.toArray)
    (k : ∀ b w', w.heap.size ≤ b → Grow w w' → Blk w' b e cs.toArray → wpList P ops Q rest ⟨(F.put d (.pointer (some ⟨b, 0, none⟩))).list.toArray, D⟩ w') :
    wpList P ops Q (⟨some d, .alloc e, ty, pos, af, none⟩ :: rest) ⟨F.list.toArray, D⟩ w :=
  S_val (Y_alloc hz) (k _ _ (Nat.le_refl _) (grow_alloc _ _) (by rw [← hc]; exact Blk.new _ _ _))
theorem mod_setRow (w : World) (b : Nat) (vs : Array Value) : Mod (· = b) w (w.setRow b vs) :=
  ⟨rfl, rfl, rfl, by simp, fun k _ hk => setRow_other w b k _ hk⟩
theorem Blk.setRow {w : World} {b : Nat} {e : TypeId} {cs : Array Value} (h : Blk w b e cs) (vs : Array Value) : Blk (w.setRow b vs) b e vs := setRow_heap w b cs vs e _ h
def oneL : List Value → Bool
  | [] => true
  | v :: r => v.oneCell' && oneL r
theorem oneL_mem : ∀ {l : List Value}, oneL l = true → ∀ u ∈ l, u.oneCell' = true
  | [], _, u, hu => by cases hu
  | v :: r, h, u, hu => by
    simp only [oneL, Bool.and_eq_true] at h
    rcases List.mem_cons.1 hu with rfl | hr
    · exact h.1
    · exact oneL_mem h.2 u hr
end
section
variable {P : Program} {ops : Array Oper} {Q : Exit → Act → World → Prop} {S : World → Prop} {fuel : Nat} {lst : List Bool} {F : Fr} {D : List Deferred} {w : World} {i : Nat}
  {d : Tmp} {ty : TypeId} {pos : String} {af : Array Edge} {e t : TypeId} {x y : Operand}
theorem E_alloc {z : Value} {cs : List Value} (hi : ops[i]? = some ⟨some d, .alloc e, ty, pos, af, none⟩) (hz : zr P e = some z) (hc : z.cells = cs.toArray)
    (k : ∀ b w', w.heap.size ≤ b → Grow w w' → Blk w' b e cs.toArray → S w' ∧ wpAnyH P .any ops Q S fuel (lst.set i true).toArray ⟨(F.put d (.pointer (some ⟨b, 0, none⟩))).list.toArray, D⟩ w') : dOp P ops Q S fuel lst ⟨F.list.toArray, D⟩ w i :=
  have hk := k _ _ (Nat.le_refl _) (grow_alloc w (.cells z.cells e)) (by rw [← hc]; exact Blk.new _ _ _)
  E_val hi (Y_alloc hz) hk.1 hk.2
end
end
/-! Opt -/
section
open Go Go.RowKit
/-- n elements of the cells z, one behind the other. -/
def zeros (z : List Value) : Nat → List Value
  | 0 => []
  | n + 1 => z ++ zeros z n
theorem zeros_len (z : List Value) : ∀ n, (zeros z n).length = n * z.length
  | 0 => by simp [zeros]
  | n + 1 => by rw [zeros, List.length_append, zeros_len z n, Nat.add_mul]; omega
theorem zeros_get (z : List Value) (hz : 0 < z.length) : ∀ (n j : Nat), j < n * z.length → (zeros z n)[j]? = z[j % z.length]?
  | 0, j, h => by simp at h
  | n + 1, j, h => by
    rw [zeros]
    by_cases hj : j < z.length
    · rw [List.getElem?_append_left hj, Nat.mod_eq_of_lt hj]
    · have h1 : j - z.length < n * z.length := by rw [Nat.add_mul] at h; omega
      rw [List.getElem?_append_right (by omega), zeros_get z hz n _ h1, ← Nat.mod_eq_sub_mod (by omega)]
theorem made_zeros (z : List Value) (hz : 0 < z.length) (n : Nat) : madeCells z.toArray (n * z.length) = (zeros z n).toArray := by
  apply Array.ext'
  apply List.ext_getElem?
  intro j
  by_cases hj : j < n * z.length
  · have hm : j % z.length < z.length := Nat.mod_lt _ hz
    simp only [zeros_get z hz n j hj]
    simp [madeCells, hj, hm]
  · rw [List.getElem?_eq_none (by simp [size_madeCells]; omega), List.getElem?_eq_none (by simp [zeros_len]; omega)]
def byt (P : Program) (e : TypeId) : Option Nat := (P.info? e).map (·.bytes)
section
variable {P : Program} {ops : Array Oper} {Q : Exit → Act → World → Prop} {rest : List Oper} {F : Fr} {D : List Deferred} {w : World}
  {d : Tmp} {ty : TypeId} {pos : String} {af : Array Edge} {e t : TypeId} {x y : Operand}
theorem Y_make {n : Nat} {zv : Value} {z : List Value} {by_ : Nat} (hu : P.underlying t = some (.slice e)) (hz : zr P e = some zv) (hzc : zv.cells = z.toArray) (hs : sz P e = some z.length) (hb : byt P e = some by_) (h0 : 0 < z.length)
    {l : Nat} (hx : ev F x = some (.int .i64 (l : Int))) (hy : ev F y = some (.int .i64 (n : Int))) (hl : l ≤ n) (hn : n * by_ ≤ 281474976710656) (hn2 : n ≤ 9223372036854775807) :
    Yl P F (.makeSlice t x y) (.slice (some ⟨w.heap.size, 0, none⟩) l n) w (w.alloc (.cells (zeros z n).toArray e)) := fun D _ _ _ _ _ => by
  unfold zr at hz
  unfold sz at hs
  unfold byt at hb
  obtain ⟨i, hi, hze⟩ := Option.bind_eq_some_iff.1 hz
  rw [hi] at hs hb
  have hs' : i.size = z.length := by simpa using hs
  have hb' : i.bytes = by_ := by simpa using hb
  have hbn : (i.bytes : Int) * (n : Int) ≤ 281474976710656 := by
    rw [hb']
    have : ((by_ * n : Nat) : Int) ≤ 281474976710656 := by rw [Nat.mul_comm]; omega
    rwa [Int.natCast_mul] at this
  have hr := run_make (P := P) w t e i zv hu hi hze .i64 .i64 l n (by omega) (by omega) hbn (by omega)
  simp only [Int.toNat_natCast, hzc, hs', made_zeros z h0] at hr
  simp [execOp, ev_eval (D := D) hx, ev_eval (D := D) hy, hr]
theorem S_make {n l : Nat} {zv : Value} {z : List Value} {by_ : Nat} (hu : P.underlying t = some (.slice e)) (hz : zr P e = some zv) (hs : sz P e = some z.length) (hb : byt P e = some by_) (hx : ev F x = some (.int .i64 (l : Int))) (hy : ev F y = some (.int .i64 (n : Int))) (hl : l ≤ n) (hn : n * by_ ≤ 281474976710656) (hn2 : n ≤ 9223372036854775807)
    (k : ∀ b w', w.heap.size ≤ b → Grow w w' → Blk w' b e (zeros z n).toArray → wpList P ops Q rest ⟨(F.put d (.slice (some ⟨b, 0, none⟩) l n)).list.toArray, D⟩ w') (hzc : zv.cells = z.toArray := by rfl) (h0 : 0 < z.length := by decide) :
    wpList P ops Q (⟨some d, .makeSlice t x y, ty, pos, af, none⟩ :: rest) ⟨F.list.toArray, D⟩ w :=
  S_val (Y_make hu hz hzc hs hb h0 hx hy hl hn hn2) (k _ _ (Nat.le_refl _) (grow_alloc _ _) (Blk.new _ _ _))
/-- A store of a value's cells in the middle of a block. -/
theorem Ys_M {b o : Nat} {pre old post vs : List Value} {v : Value} (hs : sz P t = some vs.length) (hx : ev F x = some (.pointer (some ⟨b, o, none⟩))) (hy : ev F y = some v) (hv : v.cells = vs.toArray) (h1 : oneL vs = true)
    (hB : Blk w b e (pre ++ old ++ post).toArray) (ho : pre.length = o) (hl : old.length = vs.length) : Ys P F (.store t x y) w (w.setRow b (pre ++ vs ++ post).toArray) := fun D _ _ _ _ _ => by
  subst ho
  have hst := run_storeCells_at P b pre.length e vs 0 (pre ++ old ++ post).toArray w hB (by simp; omega) (oneL_mem h1)
  simp only [Nat.add_zero] at hst
  have e1 : List.take pre.length (pre ++ old ++ post) = pre := by rw [List.append_assoc, List.take_left]
  have e2 : List.drop (pre.length + vs.length) (pre ++ old ++ post) = post := by
    rw [← hl, ← List.length_append, List.drop_left]
  rw [e1, e2] at hst
  simp [execOp, ev_eval (D := D) hx, ev_eval (D := D) hy, Instr.storeAt, Instr.sureAddr, storeVar, hv, sz_run hs, hst]
theorem S_stM {b o : Nat} {pre old post vs : List Value} {v : Value} (hs : sz P t = some vs.length) (hx : ev F x = some (.pointer (some ⟨b, o, none⟩))) (hy : ev F y = some v) (hv : v.cells = vs.toArray) (h1 : oneL vs = true)
    (hB : Blk w b e (pre ++ old ++ post).toArray) (ho : pre.length = o) (hl : old.length = vs.length)
    (k : ∀ w', Mod (fun i => i = b) w w' → Blk w' b e (pre ++ vs ++ post).toArray → wpList P ops Q rest ⟨F.list.toArray, D⟩ w') :
    wpList P ops Q (⟨none, .store t x y, ty, pos, af, none⟩ :: rest) ⟨F.list.toArray, D⟩ w :=
  S_st (Ys_M hs hx hy hv h1 hB ho hl) (k _ (mod_setRow w b _) (hB.setRow _))
end
section
variable {P : Program} {ops : Array Oper} {Q : Exit → Act → World → Prop} {S : World → Prop} {fuel : Nat} {lst : List Bool} {F : Fr} {D : List Deferred} {w : World} {i : Nat}
  {ty : TypeId} {pos : String} {af : Array Edge} {e t : TypeId} {x y : Operand}
theorem E_stM {b o : Nat} {pre old post vs : List Value} {v : Value} (hi : ops[i]? = some ⟨none, .store t x y, ty, pos, af, none⟩) (hs : sz P t = some vs.length) (hx : ev F x = some (.pointer (some ⟨b, o, none⟩))) (hy : ev F y = some v) (hv : v.cells = vs.toArray) (h1 : oneL vs = true)
    (hB : Blk w b e (pre ++ old ++ post).toArray) (ho : pre.length = o) (hl : old.length = vs.length)
    (k : ∀ w', Mod (fun i => i = b) w w' → Blk w' b e (pre ++ vs ++ post).toArray → S w' ∧ wpAnyH P .any ops Q S fuel (lst.set i true).toArray ⟨F.list.toArray, D⟩ w') : dOp P ops Q S fuel lst ⟨F.list.toArray, D⟩ w i :=
  have hk := k _ (mod_setRow w b _) (hB.setRow _)
  E_st hi (Ys_M hs hx hy hv h1 hB ho hl) hk.1 hk.2
end
section
variable {P : Program} {w : World}
theorem cell_run {t : TypeId} {b : Nat} {d : TypeDesc} {cs : List Value} {n : Nat} (ht : P.underlying t = some d) (hd : aggT d = true) (hs : sz P t = some n) (hc : CellsAt w b 0 cs) (hn : cs.length = n) :
    (loadVar t ⟨b, 0, none⟩).run P w = .ok (.agg cs.toArray) w := by
  subst hn
  have h := run_loadCells_list (P := P) w ⟨b, 0, none⟩ cs (fun j u hu => by rw [Addr.add_lit]; exact hc j u hu)
  simp [loadVar, agg_run ht, hd, sz_run hs, h]
theorem ret_rc {fn : Func} {R : Value → World → Prop} {L : List Value} {tm : Tmp} {t : TypeId} {b n : Nat} {d : TypeDesc} {cs : List Value} (ht : P.underlying t = some d) (hd : aggT d = true) (hs : sz P t = some n)
    (hr : fn.results = #[.cell tm t]) (hv : L[tm]? = some (.pointer (some ⟨b, 0, none⟩))) (hc : CellsAt w b 0 cs) (h : R (.agg cs.toArray) w) (hn : cs.length = n := by rfl) : bodyPost P fn (Ret R) .ret ⟨L.toArray, []⟩ w := by
  refine ⟨rfl, .agg cs.toArray, ?_, _, rfl, h⟩
  have hrun := cell_run ht hd hs hc hn
  simp [results, hr, Array.getD_eq_getD_getElem?, hv, asAddr, hrun]
theorem ret_rct {fn : Func} {R : Value → World → Prop} {L : List Value} {tm t2 : Tmp} {t : TypeId} {b n : Nat} {d : TypeDesc} {cs : List Value} {v2 : Value} (ht : P.underlying t = some d) (hd : aggT d = true) (hs : sz P t = some n)
    (hr : fn.results = #[.cell tm t, .tmp t2]) (hv : L[tm]? = some (.pointer (some ⟨b, 0, none⟩))) (hv2 : L[t2]? = some v2) (hc : CellsAt w b 0 cs) (h : R (.tuple #[.agg cs.toArray, v2]) w) (hn : cs.length = n := by rfl) :
    bodyPost P fn (Ret R) .ret ⟨L.toArray, []⟩ w := by
  refine ⟨rfl, .tuple #[.agg cs.toArray, v2], ?_, _, rfl, h⟩
  have hrun := cell_run ht hd hs hc hn
  simp [results, hr, Array.getD_eq_getD_getElem?, hv, hv2, asAddr, hrun]
end
/-- A slice that was just made: its block is known whole. -/
theorem R1.of_blk {Pr : Nat → Prop} {w : World} {b : Nat} {e : TypeId} {us post : List Value} (h : Blk w b e (us ++ post).toArray) (hp : Pr b) : R1 Pr w (some ⟨b, 0, none⟩) us := fun k u hu => by
  refine ⟨b, 0, rfl, hp, ?_⟩
  have hl : k < us.length := (List.getElem?_eq_some_iff.1 hu).1
  rw [Nat.zero_add, Nat.mul_one]
  exact h.at (by rw [List.getElem?_toArray, List.getElem?_append_left hl]; exact hu)
theorem Blk.eq {w : World} {b : Nat} {e : TypeId} {xs ys : List Value} (h : Blk w b e xs.toArray) (he : xs = ys) : Blk w b e ys.toArray := by rw [← he]; exact h
theorem CellsAt.of_blk {w : World} {b : Nat} {e : TypeId} {pre us post : List Value} {o : Nat} (h : Blk w b e (pre ++ us ++ post).toArray) (ho : pre.length = o) : CellsAt w b o us := fun j u hu => by
  subst ho
  have hl : j < us.length := (List.getElem?_eq_some_iff.1 hu).1
  refine h.at ?_
  rw [List.getElem?_toArray, List.append_assoc, List.getElem?_append_right (by omega), List.getElem?_append_left (by omega)]
  rw [Nat.add_sub_cancel_left]
  exact hu
end
/-! Plain -/
section
open Go
theorem bI {p q : Prop} [Decidable p] [Decidable q] (h : p ↔ q) : Value.bool (decide p) = Value.bool (decide q) := by simp [h]
theorem bAT {b : Bool} (h : b = true) : Value.bool true = Value.bool b := by rw [h]
theorem bAF {b : Bool} (h : ¬ b = true) : Value.bool false = Value.bool b := by cases b <;> simp_all
def usedAt (cs : List LC) (n : Nat) : Bool := match cs[n]? with
  | some c => c.used
  | none => false
/-- A reference is -1 or leads to a used cell. -/
def leadsB (cs : List LC) (r : Int) : Bool := decide (r = -1) || (decide (0 ≤ r) && usedAt cs r.toNat)
theorem leadsB_m1 (cs : List LC) : leadsB cs (-1) = true := by simp [leadsB]
theorem leadsB_at {cs : List LC} {n : Nat} (hn : n < cs.length) : leadsB cs (n : Int) = cs[n].used := by
  simp [leadsB, usedAt, hn]
theorem leadsB_no {cs : List LC} {r : Int} (h : ¬ r = -1) (hn : ¬ (0 ≤ r ∧ r < (cs.length : Int))) : leadsB cs r = false := by
  unfold leadsB usedAt
  by_cases h0 : 0 ≤ r
  · have : cs.length ≤ r.toNat := by omega
    simp [h, this]
  · simp [h, h0]
def okP (cs : List LC) (c : LC) : Prop := (c.used = true → c.refs.all (leadsB cs) = true ∧ 0 ≤ c.data ∧ c.data ≤ 99 ∧ c.refs.length ≤ 3) ∧ (c.used = false → c.data = 0 ∧ c.refs.length = 0)
instance (cs : List LC) (c : LC) : Decidable (okP cs c) := by unfold okP; infer_instance
def okB (cs : List LC) (c : LC) : Bool := decide (okP cs c)
theorem okP_u {cs : List LC} {c : LC} (h : c.used = true) : okP cs c ↔ c.refs.all (leadsB cs) = true ∧ 0 ≤ c.data ∧ c.data ≤ 99 ∧ c.refs.length ≤ 3 := by simp [okP, h]
theorem okP_n {cs : List LC} {c : LC} (h : c.used = false) : okP cs c ↔ c.data = 0 ∧ c.refs.length = 0 := by simp [okP, h]
theorem okB_f {cs : List LC} {c : LC} (h : ¬ okP cs c) : okB cs c = false := by simp [okB, h]
theorem okB_t {cs : List LC} {c : LC} (h : okP cs c) : okB cs c = true := by simp [okB, h]
theorem all_len0 {α : Type} {p : α → Bool} {xs : List α} (h : xs.length = 0) : xs.all p = true := by
  have := List.eq_nil_of_length_eq_zero h
  simp [this]
theorem bAD {b : Bool} {q : Prop} [Decidable q] (h : b = true ↔ q) : Value.bool b = Value.bool (decide q) := by
  cases b <;> simp_all
/-- A heap is valid. -/
def validB (h : LH) : Bool := decide (h.cells.length ≤ 40 ∧ h.roots.length = 4 ∧ h.cells.all (okB h.cells) = true ∧ h.roots.all (leadsB h.cells) = true)
theorem all_take_succ {α : Type} {p : α → Bool} {xs : List α} {k : Nat} (hk : k < xs.length) (h : (xs.take k).all p = true) (hp : p xs[k] = true) : (xs.take (k + 1)).all p = true := by
  rw [List.take_succ_eq_append_getElem hk, List.all_append, h]
  simp [hp]
theorem all_of_take {α : Type} {p : α → Bool} {xs : List α} {k : Nat} (hk : xs.length ≤ k) (h : (xs.take k).all p = true) : xs.all p = true := by
  rwa [List.take_of_length_le hk] at h
theorem all_false {α : Type} {p : α → Bool} {xs : List α} {k : Nat} (hk : k < xs.length) (hp : p xs[k] = false) : ¬ xs.all p = true := by
  intro h
  rw [List.all_eq_true] at h
  rw [h _ (List.getElem_mem hk)] at hp
  cases hp
/-- The references of the first k cells. -/
def rsum (cs : List LC) (k : Nat) : Nat := ((cs.take k).map (·.refs.length)).sum
theorem rsum_succ {cs : List LC} {k : Nat} (h : k < cs.length) : rsum cs (k + 1) = rsum cs k + cs[k].refs.length := by
  unfold rsum
  rw [List.take_succ_eq_append_getElem h, List.map_append, List.sum_append]
  simp
theorem rsum_mono {cs : List LC} {k : Nat} : ∀ {n : Nat}, k ≤ n → n ≤ cs.length → rsum cs k ≤ rsum cs n
  | 0, h, _ => by
    have : k = 0 := by omega
    subst this
    exact Nat.le_refl _
  | n + 1, h, hn => by
    by_cases hk : k = n + 1
    · rw [hk]
      exact Nat.le_refl _
    · have := rsum_mono (cs := cs) (n := n) (k := k) (by omega) (by omega)
      rw [rsum_succ (by omega)]
      omega
/-- What a heap weighs. -/
def hsize (h : LH) : Nat := h.cells.length + rsum h.cells h.cells.length + h.roots.length
theorem hsize_cells (h : LH) : h.cells.length ≤ hsize h := by unfold hsize; omega
theorem hsize_roots (h : LH) : h.roots.length ≤ hsize h := by unfold hsize; omega
theorem hsize_refs (h : LH) {k : Nat} (hk : k < h.cells.length) : h.cells[k].refs.length ≤ hsize h := by
  have h1 := rsum_succ hk
  have h2 := rsum_mono (cs := h.cells) (k := k + 1) (n := h.cells.length) (by omega) (Nat.le_refl _)
  unfold hsize
  omega
end
/-! Own -/
section
open Go
theorem zeros_pos {z : List Value} {n : Nat} (h : 0 < n) : zeros z n = z ++ zeros z (n - 1) := by
  obtain ⟨m, rfl⟩ : ∃ m, n = m + 1 := ⟨n - 1, by omega⟩
  rfl
/-- A slice whose elements, if it has any, lie at the head of a block that is known, and that meets Pr. -/
def OI (Pr : Nat → Prop) (w : World) (e : TypeId) (A : Option Addr) (us : List Value) : Prop :=
  us ≠ [] → ∃ b post, A = some ⟨b, 0, none⟩ ∧ Pr b ∧ Blk w b e (us ++ post).toArray
section
variable {Pr Pr' S : Nat → Prop} {w w' : World} {e : TypeId} {A : Option Addr} {us : List Value}
theorem OI.mod (h : OI Pr w e A us) (m : Mod S w w') (hd : ∀ k, Pr k → ¬ S k) : OI Pr w' e A us := fun hn => by
  obtain ⟨b, post, hA, hp, hB⟩ := h hn
  exact ⟨b, post, hA, hp, hB.mod m (hd b hp)⟩
theorem OI.md (h : OI Pr w e A us) (m : Mod S w w') (hd : ∀ k, Pr k → ¬ S k := by intro k hk h; first | omega | (dsimp only at hk h; omega) | (dsimp only at hk; omega)) : OI Pr w' e A us := h.mod m hd
theorem OI.grow (h : OI Pr w e A us) (m : Grow w w') : OI Pr w' e A us := h.mod m (fun _ _ h => h)
theorem OI.weak (h : OI Pr w e A us) (hp : ∀ k, Pr k → Pr' k) : OI Pr' w e A us := fun hn => by
  obtain ⟨b, post, hA, h1, hB⟩ := h hn
  exact ⟨b, post, hA, hp b h1, hB⟩
theorem OI.lt (h : OI Pr w e A us) : OI (fun k => Pr k ∧ k < w.heap.size) w e A us := fun hn => by
  obtain ⟨b, post, hA, h1, hB⟩ := h hn
  exact ⟨b, post, hA, ⟨h1, hB.lt⟩, hB⟩
theorem OI.nil (Pr : Nat → Prop) (w : World) (e : TypeId) (A : Option Addr) : OI Pr w e A [] := fun h => absurd rfl h
theorem OI.of_blk {b : Nat} {post : List Value} (h : Blk w b e (us ++ post).toArray) (hp : Pr b) : OI Pr w e (some ⟨b, 0, none⟩) us := fun _ => ⟨b, post, rfl, hp, h⟩
theorem OI.of_blk' {b : Nat} (h : Blk w b e us.toArray) (hp : Pr b) : OI Pr w e (some ⟨b, 0, none⟩) us := OI.of_blk (post := []) (by simpa using h) hp
theorem OI.r1 (h : OI Pr w e A us) : R1 Pr w A us := fun k u hu => by
  have hn : us ≠ [] := by rintro rfl; simp at hu
  obtain ⟨b, post, hA, h1, hB⟩ := h hn
  subst hA
  exact R1.of_blk hB h1 k u hu
end
/-- The cells of a heap, flat: rs gives address and capacity of each cell's references. -/
def flatC : List LC → List (Option Addr × Nat) → List Value
  | c :: cs, r :: rs => .bool c.used :: .int .i64 c.data :: .slice r.1 c.refs.length r.2 :: flatC cs rs
  | _, _ => []
theorem flatC_len : ∀ {cs : List LC} {rs : List (Option Addr × Nat)}, rs.length = cs.length → (flatC cs rs).length = cs.length * 3
  | [], [], _ => rfl
  | c :: cs, r :: rs, h => by
    have := flatC_len (cs := cs) (rs := rs) (by simpa using h)
    simp [flatC, this]
    omega
  | [], _ :: _, h => by simp at h
  | _ :: _, [], h => by simp at h
theorem flatC_app : ∀ {cs cs' : List LC} {rs rs' : List (Option Addr × Nat)}, rs.length = cs.length → flatC (cs ++ cs') (rs ++ rs') = flatC cs rs ++ flatC cs' rs'
  | [], _, [], _, _ => rfl
  | c :: cs, cs', r :: rs, rs', h => by
    have := flatC_app (cs := cs) (cs' := cs') (rs := rs) (rs' := rs') (by simpa using h)
    simp [flatC, this]
  | [], _, _ :: _, _, h => by simp at h
  | _ :: _, _, [], _, h => by simp at h
/-- The rows of references of the cells: each owned, no two in one block. -/
structure ORs (Pr : Nat → Prop) (w : World) (e : TypeId) (cs : List LC) (rs : List (Option Addr × Nat)) : Prop where
  len : rs.length = cs.length
  own : ∀ (i : Nat) (c : LC) (r : Option Addr × Nat), cs[i]? = some c → rs[i]? = some r → OI Pr w e r.1 (ints c.refs)
  far : ∀ (i j : Nat) (c c' : LC) (r r' : Option Addr × Nat), cs[i]? = some c → cs[j]? = some c' → rs[i]? = some r → rs[j]? = some r' → i ≠ j → c.refs ≠ [] → c'.refs ≠ [] → r.1 ≠ r'.1
section
variable {Pr Pr' S : Nat → Prop} {w w' : World} {e : TypeId} {cs : List LC} {rs : List (Option Addr × Nat)}
theorem ORs.nil (Pr : Nat → Prop) (w : World) (e : TypeId) : ORs Pr w e [] [] := ⟨rfl, fun i c r h => by simp at h, fun i j c c' r r' h => by simp at h⟩
theorem ORs.mod (h : ORs Pr w e cs rs) (m : Mod S w w') (hd : ∀ k, Pr k → ¬ S k) : ORs Pr w' e cs rs := ⟨h.len, fun i c r h1 h2 => (h.own i c r h1 h2).mod m hd, h.far⟩
theorem ORs.md (h : ORs Pr w e cs rs) (m : Mod S w w') (hd : ∀ k, Pr k → ¬ S k := by intro k hk h; first | omega | (dsimp only at hk h; omega) | (dsimp only at hk; omega)) : ORs Pr w' e cs rs := h.mod m hd
theorem ORs.grow (h : ORs Pr w e cs rs) (m : Grow w w') : ORs Pr w' e cs rs := h.mod m (fun _ _ h => h)
theorem ORs.weak (h : ORs Pr w e cs rs) (hp : ∀ k, Pr k → Pr' k) : ORs Pr' w e cs rs := ⟨h.len, fun i c r h1 h2 => (h.own i c r h1 h2).weak hp, h.far⟩
theorem ORs.lt (h : ORs Pr w e cs rs) : ORs (fun k => Pr k ∧ k < w.heap.size) w e cs rs := ⟨h.len, fun i c r h1 h2 => (h.own i c r h1 h2).lt, h.far⟩
theorem ORs.snoc (h : ORs Pr w e cs rs) {c : LC} {A : Option Addr} {cap : Nat} (hA : OI Pr' w e A (ints c.refs)) (hw : ∀ k, Pr k → Pr' k) (hne : ∀ k b, Pr k → A = some ⟨b, 0, none⟩ → k ≠ b) :
    ORs Pr' w e (cs ++ [c]) (rs ++ [(A, cap)]) := by
  have hl := h.len
  have g1 : ∀ {i : Nat} {x : LC} {r : Option Addr × Nat}, (cs ++ [c])[i]? = some x → (rs ++ [(A, cap)])[i]? = some r → (cs[i]? = some x ∧ rs[i]? = some r) ∨ (i = cs.length ∧ x = c ∧ r = (A, cap)) := by
    intro i x r hx hr
    by_cases hi : i < cs.length
    · rw [List.getElem?_append_left hi] at hx
      rw [List.getElem?_append_left (by omega)] at hr
      exact .inl ⟨hx, hr⟩
    · have hlt := (List.getElem?_eq_some_iff.1 hx).1
      simp only [List.length_append, List.length_cons, List.length_nil] at hlt
      have e0 : i = cs.length := by omega
      subst e0
      rw [List.getElem?_append_right (Nat.le_refl _)] at hx
      rw [List.getElem?_append_right (by omega)] at hr
      simp at hx
      simp [hl] at hr
      exact .inr ⟨rfl, hx.symm, hr.symm⟩
  refine ⟨by simp [hl], fun i x r hx hr => ?_, fun i j x y r r' hx hy hr hr' hij h1 h2 => ?_⟩
  · rcases g1 hx hr with ⟨a, b⟩ | ⟨_, rfl, rfl⟩
    · exact (h.own i x r a b).weak hw
    · exact hA
  · rcases g1 hx hr with ⟨a, b⟩ | ⟨i1, rfl, rfl⟩ <;> rcases g1 hy hr' with ⟨a', b'⟩ | ⟨i2, rfl, rfl⟩
    · exact h.far i j x y r r' a a' b b' hij h1 h2
    · obtain ⟨g, _, e1, hp, _⟩ := h.own i x r a b (by simp [ints, h1])
      intro e2
      exact hne g g hp (by rw [← e1, e2]) rfl
    · obtain ⟨g, _, e1, hp, _⟩ := h.own j y r' a' b' (by simp [ints, h2])
      intro e2
      exact hne g g hp (by rw [← e1, ← e2]) rfl
    · omega
end
/-- The cells of a heap, owned: eC, eI are the types of cells and of ints. -/
structure OC (Pr : Nat → Prop) (w : World) (eC eI : TypeId) (A : Option Addr) (cs : List LC) (rs : List (Option Addr × Nat)) : Prop where
  rows : ORs Pr w eI cs rs
  blk : cs ≠ [] → ∃ g post, A = some ⟨g, 0, none⟩ ∧ Pr g ∧ Blk w g eC (flatC cs rs ++ post).toArray
section
variable {Pr Pr' S : Nat → Prop} {w w' : World} {eC eI : TypeId} {A : Option Addr} {cs : List LC} {rs : List (Option Addr × Nat)}
theorem OC.mod (h : OC Pr w eC eI A cs rs) (m : Mod S w w') (hd : ∀ k, Pr k → ¬ S k) : OC Pr w' eC eI A cs rs := ⟨h.rows.mod m hd, fun hn => by
  obtain ⟨g, post, hA, hp, hB⟩ := h.blk hn
  exact ⟨g, post, hA, hp, hB.mod m (hd g hp)⟩⟩
theorem OC.md (h : OC Pr w eC eI A cs rs) (m : Mod S w w') (hd : ∀ k, Pr k → ¬ S k := by intro k hk h; first | omega | (dsimp only at hk h; omega) | (dsimp only at hk; omega)) : OC Pr w' eC eI A cs rs := h.mod m hd
theorem OC.grow (h : OC Pr w eC eI A cs rs) (m : Grow w w') : OC Pr w' eC eI A cs rs := h.mod m (fun _ _ h => h)
theorem OC.weak (h : OC Pr w eC eI A cs rs) (hp : ∀ k, Pr k → Pr' k) : OC Pr' w eC eI A cs rs := ⟨h.rows.weak hp, fun hn => by
  obtain ⟨g, post, hA, h1, hB⟩ := h.blk hn
  exact ⟨g, post, hA, hp g h1, hB⟩⟩
theorem OC.lt (h : OC Pr w eC eI A cs rs) : OC (fun k => Pr k ∧ k < w.heap.size) w eC eI A cs rs := ⟨h.rows.lt, fun hn => by
  obtain ⟨g, post, hA, h1, hB⟩ := h.blk hn
  exact ⟨g, post, hA, ⟨h1, hB.lt⟩, hB⟩⟩
theorem OC.nil (Pr : Nat → Prop) (w : World) (eC eI : TypeId) (A : Option Addr) : OC Pr w eC eI A [] [] := ⟨ORs.nil _ _ _, fun h => absurd rfl h⟩
theorem flatC_at {k : Nat} {c : LC} {r : Option Addr × Nat} (hl : rs.length = cs.length) (hc : cs[k]? = some c) (hr : rs[k]? = some r) :
    flatC cs rs = flatC (cs.take k) (rs.take k) ++ [.bool c.used, .int .i64 c.data, .slice r.1 c.refs.length r.2] ++ flatC (cs.drop (k + 1)) (rs.drop (k + 1)) := by
  obtain ⟨h1, e1⟩ := List.getElem?_eq_some_iff.1 hc
  obtain ⟨h2, e2⟩ := List.getElem?_eq_some_iff.1 hr
  have a : cs = cs.take k ++ ([c] ++ cs.drop (k + 1)) := by
    rw [← e1, List.singleton_append, ← List.drop_eq_getElem_cons, List.take_append_drop]
  have b : rs = rs.take k ++ ([r] ++ rs.drop (k + 1)) := by
    rw [← e2, List.singleton_append, ← List.drop_eq_getElem_cons, List.take_append_drop]
  have hlk : (rs.take k).length = (cs.take k).length := by simp [hl]
  rw [List.append_assoc]
  conv => lhs; rw [a, b]
  rw [flatC_app hlk]
  rfl
theorem OC.rc (h : OC Pr w eC eI A cs rs) : RC Pr w A cs := fun k c hc => by
  have hn : cs ≠ [] := by rintro rfl; simp at hc
  have hk := (List.getElem?_eq_some_iff.1 hc).1
  obtain ⟨g, post, hA, hp, hB⟩ := h.blk hn
  have hr : rs[k]? = some (rs[k]'(by rw [h.rows.len]; exact hk)) := List.getElem?_eq_getElem _
  refine ⟨g, 0, _, (rs[k]'(by rw [h.rows.len]; exact hk)).2, hA, hp, ?_, (h.rows.own k c _ hc hr).r1⟩
  rw [flatC_at h.rows.len hc hr, List.append_assoc] at hB
  rw [Nat.zero_add]
  exact CellsAt.of_blk hB (by rw [flatC_len (by simp [h.rows.len]), List.length_take]; omega)
end
/-- A heap that is owned whole. -/
structure OH (Pr : Nat → Prop) (w : World) (eC eI : TypeId) (A B : Option Addr) (h : LH) (rs : List (Option Addr × Nat)) : Prop where
  cells : OC Pr w eC eI A h.cells rs
  roots : OI Pr w eI B (ints h.roots)
  far : ∀ (i : Nat) (c : LC) (r : Option Addr × Nat), h.cells[i]? = some c → rs[i]? = some r → c.refs ≠ [] → h.roots ≠ [] → r.1 ≠ B
section
variable {Pr Pr' S : Nat → Prop} {w w' : World} {eC eI : TypeId} {A B : Option Addr} {h : LH} {rs : List (Option Addr × Nat)}
theorem OH.mod (o : OH Pr w eC eI A B h rs) (m : Mod S w w') (hd : ∀ k, Pr k → ¬ S k) : OH Pr w' eC eI A B h rs := ⟨o.cells.mod m hd, o.roots.mod m hd, o.far⟩
theorem OH.md (o : OH Pr w eC eI A B h rs) (m : Mod S w w') (hd : ∀ k, Pr k → ¬ S k := by intro k hk h; first | omega | (dsimp only at hk h; omega) | (dsimp only at hk; omega)) : OH Pr w' eC eI A B h rs := o.mod m hd
theorem OH.grow (o : OH Pr w eC eI A B h rs) (m : Grow w w') : OH Pr w' eC eI A B h rs := o.mod m (fun _ _ h => h)
theorem OH.weak (o : OH Pr w eC eI A B h rs) (hp : ∀ k, Pr k → Pr' k) : OH Pr' w eC eI A B h rs := ⟨o.cells.weak hp, o.roots.weak hp, o.far⟩
theorem OH.lt (o : OH Pr w eC eI A B h rs) : OH (fun k => Pr k ∧ k < w.heap.size) w eC eI A B h rs := ⟨o.cells.lt, o.roots.lt, o.far⟩
theorem OH.rc (o : OH Pr w eC eI A B h rs) : RC Pr w A h.cells := o.cells.rc
theorem OH.r1 (o : OH Pr w eC eI A B h rs) : R1 Pr w B (ints h.roots) := o.roots.r1
/-- Rows made later are others than rows made before. -/
theorem OH.of_parts {P1 P2 : Nat → Prop} (hc : OC P1 w eC eI A h.cells rs) (hr : OI P2 w eI B (ints h.roots)) (hne : ∀ k b, P1 k → B = some ⟨b, 0, none⟩ → P2 b → k ≠ b) (h1 : ∀ k, P1 k → Pr k) (h2 : ∀ k, P2 k → Pr k) : OH Pr w eC eI A B h rs := by
  refine ⟨hc.weak h1, hr.weak h2, fun i c r h1 h2 h3 h4 e => ?_⟩
  obtain ⟨b, _, e1, hp1, _⟩ := hr (by simp [ints, h4])
  obtain ⟨g, _, e2, hp2, _⟩ := hc.rows.own i c r h1 h2 (by simp [ints, h3])
  rw [e, e1] at e2
  injection e2 with e2
  injection e2 with e2
  exact hne g b hp2 e1 hp1 e2.symm
end
end
/-! App -/
section
open Go Go.RowKit
/-- A slice with n elements of s cells each, at the head of a block that meets Pr; it may be appended to. -/
def OW (Pr : Nat → Prop) (w : World) (e : TypeId) (s : Nat) (A : Option Addr) (n cap : Nat) (us : List Value) : Prop :=
  us.length = n * s ∧ ((A = none ∧ n = 0 ∧ cap = 0) ∨ ∃ g cur, A = some ⟨g, 0, none⟩ ∧ Pr g ∧ w.heap[g]? = some (.cells cur e (0, 0)) ∧ n ≤ cap ∧ cap ≤ maxLen ∧ cur.size = cap * s ∧ cur.toList.take (n * s) = us)
section
variable {Pr Pr' S : Nat → Prop} {w w' : World} {e : TypeId} {s n cap : Nat} {A : Option Addr} {us : List Value}
theorem OW.mod (h : OW Pr w e s A n cap us) (m : Mod S w w') (hd : ∀ k, Pr k → ¬ S k) : OW Pr w' e s A n cap us := by
  refine ⟨h.1, ?_⟩
  rcases h.2 with a | ⟨g, cur, h1, h2, h3, h4⟩
  · exact .inl a
  · exact .inr ⟨g, cur, h1, h2, (m.block g (Blk.lt h3) (hd g h2)).trans h3, h4⟩
theorem OW.md (h : OW Pr w e s A n cap us) (m : Mod S w w') (hd : ∀ k, Pr k → ¬ S k := by intro k hk h; first | omega | (dsimp only at hk h; omega) | (dsimp only at hk; omega)) : OW Pr w' e s A n cap us := h.mod m hd
theorem OW.grow (h : OW Pr w e s A n cap us) (m : Grow w w') : OW Pr w' e s A n cap us := h.mod m (fun _ _ h => h)
theorem OW.weak (h : OW Pr w e s A n cap us) (hp : ∀ k, Pr k → Pr' k) : OW Pr' w e s A n cap us := by
  refine ⟨h.1, ?_⟩
  rcases h.2 with a | ⟨g, cur, h1, h2, h3⟩
  · exact .inl a
  · exact .inr ⟨g, cur, h1, hp g h2, h3⟩
theorem OW.lt (h : OW Pr w e s A n cap us) : OW (fun k => Pr k ∧ k < w.heap.size) w e s A n cap us := by
  refine ⟨h.1, ?_⟩
  rcases h.2 with a | ⟨g, cur, h1, h2, h3, h4⟩
  · exact .inl a
  · exact .inr ⟨g, cur, h1, ⟨h2, Blk.lt h3⟩, h3, h4⟩
theorem OW.nil (Pr : Nat → Prop) (w : World) (e : TypeId) (s : Nat) : OW Pr w e s none 0 0 [] := ⟨by simp, .inl ⟨rfl, rfl, rfl⟩⟩
theorem OW.of_blk {b : Nat} (h : Blk w b e us.toArray) (hl : us.length = n * s) (hn : n ≤ maxLen) (hp : Pr b) : OW Pr w e s (some ⟨b, 0, none⟩) n n us :=
  ⟨hl, .inr ⟨b, us.toArray, rfl, hp, h, Nat.le_refl _, hn, by simpa using hl, by simp [← hl]⟩⟩
theorem OW.own (h : OW Pr w e s A n cap us) : w.ownsRow 0 e s (.slice A n cap) n us := by
  refine ⟨h.1, ?_⟩
  rcases h.2 with ⟨rfl, rfl, rfl⟩ | ⟨g, cur, rfl, _, h3, h4⟩
  · exact .inl ⟨rfl, rfl⟩
  · exact .inr ⟨g, cap, cur, rfl, Nat.zero_le _, h3, h4⟩
theorem OW.blk (h : OW Pr w e s A n cap us) (hn : us ≠ []) : ∃ b post, A = some ⟨b, 0, none⟩ ∧ Pr b ∧ Blk w b e (us ++ post).toArray := by
  rcases h.2 with ⟨_, h2, _⟩ | ⟨g, cur, h1, h2, h3, _, _, _, h7⟩
  · have := h.1
    subst h2
    simp at this
    exact absurd this hn
  · refine ⟨g, cur.toList.drop (n * s), h1, h2, ?_⟩
    rw [← h7, List.take_append_drop]
    simpa [Blk] using h3
theorem OW.oi (h : OW Pr w e s A n cap us) : OI Pr w e A us := fun hn => h.blk hn
theorem OW.r1 (h : OW Pr w e s A n cap us) : R1 Pr w A us := h.oi.r1
theorem OW.pop (h : OW Pr w e s A n cap us) {m : Nat} (hm : m ≤ n) : OW Pr w e s A m cap (us.take (m * s)) := by
  have hle : m * s ≤ n * s := Nat.mul_le_mul_right _ hm
  refine ⟨by rw [List.length_take, h.1]; omega, ?_⟩
  rcases h.2 with ⟨h1, h2, h3⟩ | ⟨g, cur, h1, h2, h3, h4, h5, h6, h7⟩
  · exact .inl ⟨h1, by omega, h3⟩
  · exact .inr ⟨g, cur, h1, h2, h3, by omega, h5, h6, by rw [← h7, List.take_take, Nat.min_eq_left hle]⟩
end
theorem append_ty {ats : Array TypeId} {ty ty' : TypeId} {args : Array Value} : Builtin.append_ ats ty args = Builtin.append_ ats ty' args := rfl
section
variable {P : Program} {w : World}
/-- What is appended can be read. -/
def Src (w : World) (A : Option Addr) (m : Nat) (news : List Value) : Prop := (A = none → m = 0) ∧ ∀ a, A = some a → ∀ j u, news[j]? = some u → w.cell? (a.add j) = some u
theorem Src.r1 {Pr : Nat → Prop} {A : Option Addr} {news : List Value} (h : R1 Pr w A news) : Src w A news.length news := by
  refine ⟨fun hA => ?_, fun a hA j u hu => ?_⟩
  · subst hA
    cases news with
    | nil => rfl
    | cons x xs => obtain ⟨_, _, h1, _⟩ := h 0 x rfl; cases h1
  · obtain ⟨g, o, h1, _, hc⟩ := h j u hu
    rw [hA] at h1
    cases h1
    rw [Addr.add_lit]
    simpa using hc
theorem Src.blk {b m : Nat} {e : TypeId} {news : List Value} (h : Blk w b e news.toArray) : Src w (some ⟨b, 0, none⟩) m news := by
  refine ⟨fun h => (by cases h), fun a hA j u hu => ?_⟩
  cases hA
  rw [Addr.add_lit, Nat.zero_add]
  exact h.at (by simpa using hu)
theorem ints_one {xs : List Int} : ∀ u ∈ ints xs, u.oneCell' = true := fun u hu => by
  simp only [ints, List.mem_map] at hu
  obtain ⟨x, _, rfl⟩ := hu
  rfl
theorem run_app {t ty e : TypeId} {zv : Value} {s by_ n cap m c : Nat} {A A2 : Option Addr} {us news : List Value} {Pr : Nat → Prop} (ht : P.underlying t = some (.slice e)) (hz : zr P e = some zv) (hs : sz P e = some s) (hb : byt P e = some by_)
    (hzs : zv.cells.size = s) (h0 : 0 < s) (h9 : by_ ≤ 100) (O : OW Pr w e s A n cap us) (hl : news.length = m * s) (hsrc : Src w A2 m news) (h1 : ∀ u ∈ news, u.oneCell' = true) (hlen : n + m ≤ 1099511627776) :
    ∃ A' cap' w', (Builtin.append_ #[t, t] ty #[.slice A n cap, .slice A2 m c]).run P w = .ok (.slice A' (n + m) cap') w' ∧ OW (fun k => Pr k ∨ k = w.heap.size) w' e s A' (n + m) cap' (us ++ news) ∧ Mod Pr w w' := by
  unfold zr at hz
  unfold sz at hs
  unfold byt at hb
  obtain ⟨i, hi, hze⟩ := Option.bind_eq_some_iff.1 hz
  rw [hi] at hs hb
  have hs' : i.size = s := by simpa using hs
  have hb' : i.bytes = by_ := by simpa using hb
  cases A2 with
  | none =>
    have hm := hsrc.1 rfl
    subst hm
    have hn : news = [] := List.eq_nil_of_length_eq_zero (by simpa using hl)
    subst hn
    refine ⟨A, cap, w, ?_, by simpa using O.weak (fun k hk => .inl hk), Mod.refl _ _⟩
    have hcap : n ≤ cap := by
      rcases O.2 with ⟨_, h2, _⟩ | ⟨g, cur, _, _, _, h4, _⟩ <;> omega
    cases A <;> simp [Builtin.append_, run_underlying ht, sizeOf, typeInfo, hi, Builtin.lenOf, Builtin.firstCells, loadCells, hcap, storeCells]
  | some a =>
    obtain ⟨v', w', hr, how, hg, _, hob⟩ := run_append_own_at (P := P) w 0 t ty e i zv s by_ ht hi hze hs' hb' hzs h0 _ n us O.own a m c news hl (hsrc.2 a rfl) h1 (by simp only [maxLen]; omega)
      (by have := Nat.mul_le_mul hlen h9; omega) (Nat.zero_le _)
    have hm : Mod Pr w w' := (mod_grown hg).weak (fun k hk _ => by
      rcases O.2 with ⟨rfl, _, _⟩ | ⟨g, cur, rfl, h2, _⟩
      · simp [Value.ownBlock] at hk
      · simp [Value.ownBlock] at hk
        exact hk ▸ h2)
    rcases how.2 with ⟨rfl, h3⟩ | ⟨g, cap', cur, rfl, _, h3, h4, h5, h6, h7⟩
    · have e1 : n = 0 := by omega
      have e2 : m = 0 := by omega
      subst e1
      subst e2
      exact ⟨none, 0, w', hr, ⟨how.1, .inl ⟨rfl, rfl, rfl⟩⟩, hm⟩
    · refine ⟨_, cap', w', hr, ⟨how.1, .inr ⟨g, cur, rfl, ?_, h3, h4, h5, h6, h7⟩⟩, hm⟩
      rcases hob with hob | hob
      · rcases O.2 with ⟨rfl, _, _⟩ | ⟨g', cur', rfl, h2, _⟩
        · simp [Value.ownBlock] at hob
        · simp [Value.ownBlock] at hob
          exact .inl (hob ▸ h2)
      · simp [Value.ownBlock] at hob
        exact .inr hob
end
section
variable {P : Program} {ops : Array Oper} {Q : Exit → Act → World → Prop} {S : World → Prop} {rest : List Oper} {fuel : Nat} {lst : List Bool} {F : Fr} {D : List Deferred} {w : World}
  {d : Tmp} {ty : TypeId} {pos : String} {af : Array Edge} {e t : TypeId} {x y : Operand} {zv : Value} {s by_ n cap m c i : Nat} {A A2 : Option Addr} {us news : List Value} {Pr Pr' : Nat → Prop}
theorem Y_app (ht : P.underlying t = some (.slice e)) (hz : zr P e = some zv) (hs : sz P e = some s) (hb : byt P e = some by_) (hx : ev F x = some (.slice A n cap)) (hy : ev F y = some (.slice A2 m c))
    (O : OW Pr w e s A n cap us) (hl : news.length = m * s) (hsrc : Src w A2 m news) (h1 : ∀ u ∈ news, u.oneCell' = true) (hlen : n + m ≤ 1099511627776)
    (hp : ∀ k, Pr k → Pr' k) (hn : Pr' w.heap.size) (hzs : zv.cells.size = s) (h0 : 0 < s) (h9 : by_ ≤ 100) :
    ∃ A' cap' w', Yl P F (.call ⟨.builtin .append, #[x, y], #[t, t]⟩) (.slice A' (n + m) cap') w w' ∧ OW Pr' w' e s A' (n + m) cap' (us ++ news) ∧ Mod Pr w w' := by
  obtain ⟨A', cap', w', hr, ho, hm⟩ := run_app (P := P) (ty := 0) (c := c) ht hz hs hb hzs h0 h9 O hl hsrc h1 hlen
  refine ⟨A', cap', w', fun D _ _ _ _ _ => ?_, ho.weak (fun k hk => hk.elim (hp k) (fun e => e ▸ hn)), hm⟩
  simp only [execOp, resolve, invoke, builtin, List.map_toArray, List.map_cons, List.map_nil, ev_eval (D := D) hx, ev_eval (D := D) hy, Sem.run_bind, Sem.run_pure, Result.andThen_ok]
  simp only [append_ty (ty' := 0)]
  simp [hr]
theorem S_app (ht : P.underlying t = some (.slice e)) (hz : zr P e = some zv) (hs : sz P e = some s) (hb : byt P e = some by_) (hx : ev F x = some (.slice A n cap)) (hy : ev F y = some (.slice A2 m c))
    (O : OW Pr w e s A n cap us) (hl : news.length = m * s) (hsrc : Src w A2 m news) (h1 : ∀ u ∈ news, u.oneCell' = true) (hlen : n + m ≤ 1099511627776)
    (hp : ∀ k, Pr k → Pr' k) (hn : Pr' w.heap.size)
    (k : ∀ A' cap' w', OW Pr' w' e s A' (n + m) cap' (us ++ news) → Mod Pr w w' → wpList P ops Q rest ⟨(F.put d (.slice A' (n + m) cap')).list.toArray, D⟩ w') (hzs : zv.cells.size = s := by rfl) (h0 : 0 < s := by decide) (h9 : by_ ≤ 100 := by decide) :
    wpList P ops Q (⟨some d, .call ⟨.builtin .append, #[x, y], #[t, t]⟩, ty, pos, af, none⟩ :: rest) ⟨F.list.toArray, D⟩ w := by
  obtain ⟨A', cap', w', hy', ho, hm⟩ := Y_app ht hz hs hb hx hy O hl hsrc h1 hlen hp hn hzs h0 h9
  exact S_val hy' (k _ _ _ ho hm)
theorem E_app (hi : ops[i]? = some ⟨some d, .call ⟨.builtin .append, #[x, y], #[t, t]⟩, ty, pos, af, none⟩) (ht : P.underlying t = some (.slice e)) (hz : zr P e = some zv) (hs : sz P e = some s) (hb : byt P e = some by_) (hx : ev F x = some (.slice A n cap)) (hy : ev F y = some (.slice A2 m c))
    (O : OW Pr w e s A n cap us) (hl : news.length = m * s) (hsrc : Src w A2 m news) (h1 : ∀ u ∈ news, u.oneCell' = true) (hlen : n + m ≤ 1099511627776)
    (hp : ∀ k, Pr k → Pr' k) (hn : Pr' w.heap.size)
    (k : ∀ A' cap' w', OW Pr' w' e s A' (n + m) cap' (us ++ news) → Mod Pr w w' → S w' ∧ wpAnyH P .any ops Q S fuel (lst.set i true).toArray ⟨(F.put d (.slice A' (n + m) cap')).list.toArray, D⟩ w') (hzs : zv.cells.size = s := by rfl) (h0 : 0 < s := by decide) (h9 : by_ ≤ 100 := by decide) :
    dOp P ops Q S fuel lst ⟨F.list.toArray, D⟩ w i := by
  obtain ⟨A', cap', w', hy', ho, hm⟩ := Y_app ht hz hs hb hx hy O hl hsrc h1 hlen hp hn hzs h0 h9
  have h := k _ _ _ ho hm
  exact E_val hi hy' h.1 h.2
/-- A slice up to j. -/
theorem Y_sliceH {j : Nat} {q : IntKind} (ht : P.underlying t = some (.slice e)) (hs : sz P e = some s) (hx : ev F x = some (.slice A n cap)) (hy : ev F y = some (.int q (j : Int))) (hj : j ≤ cap) :
    Yl P F (.slice t x none (some y) none) (.slice A j cap) w w := fun D _ _ _ _ _ => by
  have he : P.elem t = e := by simp [Program.elem, ht]
  have h := run_slice_h (P := P) (w := w) t A n cap (by rw [he]; exact ht) q (j : Int) (by omega) (by omega)
  have h2 := run_sliceAt_slice (P := P) (w := w) t (.slice A n cap) none (some (.int q (j : Int))) none (by rw [he]; exact ht)
  rw [he, sz_run hs] at h
  have hA : A.map (·.add 0) = A := by
    cases A with
    | none => rfl
    | some a => cases a; simp [Addr.add]
  simp [execOp, ev_eval (D := D) hx, ev_eval (D := D) hy, h2, h, sliced, Result.andThen]
  intro _
  simpa using hA
/-- A slice of no element. -/
theorem Y_bs0 (ht : P.underlying t = some (.slice e)) (hs : sz P e = some s) : Yl P F (.buildSlice t 0 #[]) (.slice (some ⟨w.heap.size, 0, none⟩) 0 0) w (w.alloc (.cells #[] e)) := fun D _ _ _ _ _ => by
  simp [execOp, Instr.buildSlice, run_underlying ht, sz_run hs, Instr.fill, newRow]
  congr 2
  exact Array.ext (by simp) (fun i h _ => by simp at h)
theorem S_bs0 (ht : P.underlying t = some (.slice e)) (hs : sz P e = some s) (k : ∀ b w', w.heap.size ≤ b → Grow w w' → Blk w' b e ([] : List Value).toArray → wpList P ops Q rest ⟨(F.put d (.slice (some ⟨b, 0, none⟩) 0 0)).list.toArray, D⟩ w') :
    wpList P ops Q (⟨some d, .buildSlice t 0 #[], ty, pos, af, none⟩ :: rest) ⟨F.list.toArray, D⟩ w :=
  S_val (Y_bs0 ht hs) (k _ _ (Nat.le_refl _) (grow_alloc _ _) (Blk.new _ _ _))
theorem E_bs0 (hi : ops[i]? = some ⟨some d, .buildSlice t 0 #[], ty, pos, af, none⟩) (ht : P.underlying t = some (.slice e)) (hs : sz P e = some s)
    (k : ∀ b w', w.heap.size ≤ b → Grow w w' → Blk w' b e ([] : List Value).toArray → S w' ∧ wpAnyH P .any ops Q S fuel (lst.set i true).toArray ⟨(F.put d (.slice (some ⟨b, 0, none⟩) 0 0)).list.toArray, D⟩ w') :
    dOp P ops Q S fuel lst ⟨F.list.toArray, D⟩ w i := by
  have h := k _ _ (Nat.le_refl _) (grow_alloc _ _) (Blk.new w e #[])
  exact E_val hi (Y_bs0 ht hs) h.1 h.2
/-- A slice of one element. -/
theorem Y_bs1 {v : Value} {cs : List Value} (ht : P.underlying t = some (.slice e)) (hz : zr P e = some zv) (hs : sz P e = some s) (hx : ev F x = some v) (hc : v.cells = cs.toArray) (hl : cs.length = s) (hzs : zv.cells.size = s) (h0 : 0 < s) (h9 : s ≤ 100) :
    Yl P F (.buildSlice t 1 #[(0, x)]) (.slice (some ⟨w.heap.size, 0, none⟩) 1 1) w (w.alloc (.cells cs.toArray e)) := fun D _ _ _ _ _ => by
  subst hl
  have h1 : ¬ (2 ^ 24 < cs.length) := by omega
  have h2 : ¬ (cs.length = 0) := by omega
  have key : (cs.zipIdx.foldl (fun (a : Array Value) (p : Value × Nat) => a.setIfInBounds (0 + p.2) p.1) ((Array.range cs.length).map (zv.cells[· % zv.cells.size]!))) = cs.toArray := by
    have gen : ∀ (l : List Value) (k : Nat) (a : Array Value), k + l.length ≤ a.size → ((l.zipIdx k).foldl (fun (a : Array Value) (p : Value × Nat) => a.setIfInBounds (0 + p.2) p.1) a) = (a.toList.take k ++ l ++ a.toList.drop (k + l.length)).toArray := by
      intro l
      induction l with
      | nil => intro k a _; simp
      | cons x l ih =>
        intro k a hk
        simp only [List.zipIdx_cons, List.foldl_cons]
        rw [ih (k + 1) _ (by simp only [Array.size_setIfInBounds]; simp only [List.length_cons] at hk; omega)]
        simp only [List.length_cons] at hk
        apply Array.ext'
        simp only [Nat.zero_add, Array.toList_setIfInBounds, List.length_cons]
        rw [List.drop_set_of_lt (by omega), List.take_succ_eq_append_getElem (by simp; omega), List.take_set]
        simp only [List.getElem_set_self]
        rw [List.set_eq_of_length_le (by simp; omega)]
        simp [Nat.add_assoc, Nat.add_comm 1]
    have := gen cs 0 ((Array.range cs.length).map (zv.cells[· % zv.cells.size]!)) (by simp)
    rw [this]
    simp
  simp [execOp, Instr.buildSlice, run_underlying ht, sz_run hs, zr_run hz, ev_eval (D := D) hx, h1, h2, Instr.fill, hc, newRow]
  simp only [Nat.zero_add] at key
  rw [key]
theorem S_bs1 {v : Value} {cs : List Value} (ht : P.underlying t = some (.slice e)) (hz : zr P e = some zv) (hs : sz P e = some s) (hx : ev F x = some v) (hc : v.cells = cs.toArray) (hl : cs.length = s)
    (k : ∀ b w', w.heap.size ≤ b → Grow w w' → Blk w' b e cs.toArray → wpList P ops Q rest ⟨(F.put d (.slice (some ⟨b, 0, none⟩) 1 1)).list.toArray, D⟩ w') (hzs : zv.cells.size = s := by rfl) (h0 : 0 < s := by decide) (h9 : s ≤ 100 := by decide) :
    wpList P ops Q (⟨some d, .buildSlice t 1 #[(0, x)], ty, pos, af, none⟩ :: rest) ⟨F.list.toArray, D⟩ w :=
  S_val (Y_bs1 ht hz hs hx hc hl hzs h0 h9) (k _ _ (Nat.le_refl _) (grow_alloc _ _) (Blk.new _ _ _))
theorem E_bs1 {v : Value} {cs : List Value} (hi : ops[i]? = some ⟨some d, .buildSlice t 1 #[(0, x)], ty, pos, af, none⟩) (ht : P.underlying t = some (.slice e)) (hz : zr P e = some zv) (hs : sz P e = some s) (hx : ev F x = some v) (hc : v.cells = cs.toArray) (hl : cs.length = s)
    (k : ∀ b w', w.heap.size ≤ b → Grow w w' → Blk w' b e cs.toArray → S w' ∧ wpAnyH P .any ops Q S fuel (lst.set i true).toArray ⟨(F.put d (.slice (some ⟨b, 0, none⟩) 1 1)).list.toArray, D⟩ w') (hzs : zv.cells.size = s := by rfl) (h0 : 0 < s := by decide) (h9 : s ≤ 100 := by decide) :
    dOp P ops Q S fuel lst ⟨F.list.toArray, D⟩ w i := by
  have h := k _ _ (Nat.le_refl _) (grow_alloc _ _) (Blk.new w e cs.toArray)
  exact E_val hi (Y_bs1 ht hz hs hx hc hl hzs h0 h9) h.1 h.2
end
section
variable {P : Program} {F : Fr} {w : World} {t t' : TypeId} {x y : Operand}
theorem wrap_u64 (n : Int) : IntKind.u64.wrap n = n % 18446744073709551616 := by simp [IntKind.wrap, IntKind.bits, IntKind.signed]
theorem Y_shr {a j : Nat} (hx : ev F x = some (.int .u64 (a : Int))) (hy : ev F y = some (.int .i64 (j : Int))) (ha : a < 2 ^ 64) : Yl P F (.binOp .shr t x y t') (.int .u64 ((a >>> j : Nat) : Int)) w w := fun D _ _ _ _ _ => by
  have h0 : (0 : Int) ≤ (j : Int) := by omega
  have key : ((a : Int) / 2 ^ min j 64) = ((a >>> j : Nat) : Int) := by
    rw [Nat.shiftRight_eq_div_pow, Int.natCast_ediv]
    by_cases hj : j ≤ 64
    · rw [Nat.min_eq_left hj]
      norm_cast
    · rw [Nat.min_eq_right (by omega)]
      have h1 : a / 2 ^ 64 = 0 := Nat.div_eq_of_lt ha
      have h2 : a / 2 ^ j = 0 := Nat.div_eq_of_lt (Nat.lt_of_lt_of_le ha (Nat.pow_le_pow_right (by decide) (by omega)))
      have e1 : ((a : Int) / 2 ^ 64) = ((a / 2 ^ 64 : Nat) : Int) := by norm_cast
      have e2 : ((a : Int) / ((2 ^ j : Nat) : Int)) = ((a / 2 ^ j : Nat) : Int) := by norm_cast
      rw [e1, e2, h1, h2]
  simp [execOp, ev_eval (D := D) hx, ev_eval (D := D) hy, eqGuard_shr, binOp_shr, shift_shr_any _ _ _ _ h0, IntKind.bits]
  exact key
theorem Y_shl {a j : Nat} (hx : ev F x = some (.int .u64 (a : Int))) (hy : ev F y = some (.int .i64 (j : Int))) (ha : a * 2 ^ j < 2 ^ 64) (hj : j < 64) : Yl P F (.binOp .shl t x y t') (.int .u64 ((a * 2 ^ j : Nat) : Int)) w w := fun D _ _ _ _ _ => by
  have h0 : (0 : Int) ≤ (j : Int) := by omega
  have key : IntKind.u64.wrap ((a : Int) * 2 ^ min j 64) = ((a * 2 ^ j : Nat) : Int) := by
    rw [Nat.min_eq_left (by omega), wrap_u64]
    have e1 : ((a : Int) * 2 ^ j) = ((a * 2 ^ j : Nat) : Int) := by norm_cast
    rw [e1]
    omega
  have key2 : IntKind.u64.wrap ((a : Int) * 2 ^ j) = ((a * 2 ^ j : Nat) : Int) := by
    rw [Nat.min_eq_left (by omega)] at key
    exact key
  simp [execOp, ev_eval (D := D) hx, ev_eval (D := D) hy, eqGuard_shl, binOp_shl, shift_shl_any _ _ _ _ h0, IntKind.bits]
  first | simpa using key | simpa using key2
theorem bits_u64 {a : Nat} (ha : a < 2 ^ 64) : IntKind.u64.wrap (a : Int) = (a : Int) := by
  rw [wrap_u64]
  omega
theorem Y_and {a b : Nat} (hx : ev F x = some (.int .u64 (a : Int))) (hy : ev F y = some (.int .u64 (b : Int))) (ha : a < 2 ^ 64) (hb : b < 2 ^ 64) : Yl P F (.binOp .and t x y t') (.int .u64 ((a &&& b : Nat) : Int)) w w := fun D _ _ _ _ _ => by
  have e1 : a % 2 ^ 64 = a := Nat.mod_eq_of_lt ha
  have e2 : b % 2 ^ 64 = b := Nat.mod_eq_of_lt hb
  have h := bits_u64 (Nat.and_lt_two_pow (n := 64) a hb)
  have key : (Op.intBits .and .u64 (a : Int) (b : Int)) = pure (.int .u64 ((a &&& b : Nat) : Int)) := by
    have hh : (BitVec.ofNat 64 a &&& BitVec.ofNat 64 b).toNat = a &&& b := by rw [BitVec.toNat_and, BitVec.toNat_ofNat, BitVec.toNat_ofNat, e1, e2]
    simp only [Op.intBits, BitVec.ofInt_natCast, IntKind.bits]
    exact congrArg (fun z => pure (Value.int .u64 z)) ((congrArg (fun z : Nat => IntKind.u64.wrap (z : Int)) hh).trans h)
  simp [execOp, ev_eval (D := D) hx, ev_eval (D := D) hy, eqGuard_and, binOp_and, key]
theorem Y_or {a b : Nat} (hx : ev F x = some (.int .u64 (a : Int))) (hy : ev F y = some (.int .u64 (b : Int))) (ha : a < 2 ^ 64) (hb : b < 2 ^ 64) : Yl P F (.binOp .or t x y t') (.int .u64 ((a ||| b : Nat) : Int)) w w := fun D _ _ _ _ _ => by
  have e1 : a % 2 ^ 64 = a := Nat.mod_eq_of_lt ha
  have e2 : b % 2 ^ 64 = b := Nat.mod_eq_of_lt hb
  have h := bits_u64 (Nat.or_lt_two_pow (n := 64) ha hb)
  have key : (Op.intBits .or .u64 (a : Int) (b : Int)) = pure (.int .u64 ((a ||| b : Nat) : Int)) := by
    have hh : (BitVec.ofNat 64 a ||| BitVec.ofNat 64 b).toNat = a ||| b := by rw [BitVec.toNat_or, BitVec.toNat_ofNat, BitVec.toNat_ofNat, e1, e2]
    simp only [Op.intBits, BitVec.ofInt_natCast, IntKind.bits]
    exact congrArg (fun z => pure (Value.int .u64 z)) ((congrArg (fun z : Nat => IntKind.u64.wrap (z : Int)) hh).trans h)
  simp [execOp, ev_eval (D := D) hx, ev_eval (D := D) hy, eqGuard_or, binOp_or, key]
/-- The numbers that are in a and not in b. -/
def lessN (a b : Nat) : Nat := a &&& (2 ^ 64 - 1 - b)
theorem Y_andNot {a b : Nat} (hx : ev F x = some (.int .u64 (a : Int))) (hy : ev F y = some (.int .u64 (b : Int))) (ha : a < 2 ^ 64) (hb : b < 2 ^ 64) : Yl P F (.binOp .andNot t x y t') (.int .u64 ((lessN a b : Nat) : Int)) w w := fun D _ _ _ _ _ => by
  have e1 : a % 2 ^ 64 = a := Nat.mod_eq_of_lt ha
  have e2 : b % 2 ^ 64 = b := Nat.mod_eq_of_lt hb
  have hlt : lessN a b < 2 ^ 64 := Nat.lt_of_le_of_lt Nat.and_le_left ha
  have h := bits_u64 hlt
  have key : (Op.intBits .andNot .u64 (a : Int) (b : Int)) = pure (.int .u64 ((lessN a b : Nat) : Int)) := by
    have hh : (BitVec.ofNat 64 a &&& ~~~ BitVec.ofNat 64 b).toNat = lessN a b := by rw [BitVec.toNat_and, BitVec.toNat_not, BitVec.toNat_ofNat, BitVec.toNat_ofNat, e1, e2]; rfl
    simp only [Op.intBits, BitVec.ofInt_natCast, IntKind.bits]
    exact congrArg (fun z => pure (Value.int .u64 z)) ((congrArg (fun z : Nat => IntKind.u64.wrap (z : Int)) hh).trans h)
  simp [execOp, ev_eval (D := D) hx, ev_eval (D := D) hy, eqGuard_andNot, binOp_andNot, key]
theorem lessN_lt {a b : Nat} (ha : a < 2 ^ 64) : lessN a b < 2 ^ 64 := Nat.lt_of_le_of_lt Nat.and_le_left ha
theorem lessN_bit {a b i : Nat} (ha : a < 2 ^ 64) (hb : b < 2 ^ 64) : (lessN a b).testBit i = (a.testBit i && !b.testBit i) := by
  unfold lessN
  rw [Nat.testBit_and, Nat.sub_sub, Nat.add_comm 1 b, Nat.testBit_two_pow_sub_succ hb]
  by_cases hi : i < 64
  · simp [hi]
  · have : a.testBit i = false := Nat.testBit_lt_two_pow (Nat.lt_of_lt_of_le ha (Nat.pow_le_pow_right (by decide) (by omega)))
    simp [this]
/-- Add an element. -/
def addN (a i : Nat) : Nat := a ||| 2 ^ i
theorem addN_lt {a i : Nat} (ha : a < 2 ^ 64) (hi : i < 64) : addN a i < 2 ^ 64 := Nat.or_lt_two_pow ha (Nat.pow_lt_pow_right (by decide) hi)
theorem addN_bit (a i j : Nat) : (addN a i).testBit j = (a.testBit j || decide (i = j)) := by
  unfold addN
  rw [Nat.testBit_or, Nat.testBit_two_pow]
theorem shr_bit (a j : Nat) : ((a >>> j : Nat) &&& 1) = (a.testBit j).toNat := by
  rw [Nat.testBit, Nat.and_one_is_mod, Nat.one_and_eq_mod_two]
  rcases Nat.mod_two_eq_zero_or_one (a >>> j) with h | h <;> simp [h]
end
end
/-! Bld -/
section
open Go Go.RowKit
/-- Bytes. -/
def u8s (xs : List Int) : List Value := xs.map (Value.int .u8)
theorem u8s_get {xs : List Int} {k : Nat} {x : Int} (h : xs[k]? = some x) : (u8s xs)[k]? = some (.int .u8 x) := by simp [u8s, h]
/-- The parts are laid into the cells. -/
def fillL (place : Nat → Option (Nat × Nat)) : List Value → List (Nat × List Value) → Option (List Value)
  | cs, [] => some cs
  | cs, (i, vs) :: r => match place i with
    | none => none
    | some (off, size) => bif Nat.beq vs.length size && Nat.ble (off + vs.length) cs.length then fillL place (cs.take off ++ vs ++ cs.drop (off + vs.length)) r else none
def cellsP : List (Nat × Value) → List (Nat × List Value)
  | [] => []
  | (i, v) :: r => (i, v.cells.toList) :: cellsP r
theorem fold_set (off : Nat) : ∀ (l : List Value) (k : Nat) (a : Array Value), off + k + l.length ≤ a.size →
    ((l.zipIdx k).foldl (fun (a : Array Value) (p : Value × Nat) => a.setIfInBounds (off + p.2) p.1) a) = (a.toList.take (off + k) ++ l ++ a.toList.drop (off + k + l.length)).toArray
  | [], k, a, _ => by simp
  | x :: l, k, a, hk => by
    simp only [List.length_cons] at hk
    simp only [List.zipIdx_cons, List.foldl_cons]
    rw [fold_set off l (k + 1) _ (by simp only [Array.size_setIfInBounds]; omega)]
    apply Array.ext'
    simp only [Array.toList_setIfInBounds, List.length_cons]
    rw [List.drop_set_of_lt (by omega), show off + (k + 1) = off + k + 1 by omega, List.take_succ_eq_append_getElem (by simp; omega), List.take_set]
    simp only [List.getElem_set_self]
    rw [List.set_eq_of_length_le (by simp; omega)]
    simp [show off + k + 1 + l.length = off + k + (l.length + 1) by omega]
theorem fill_of {place : Nat → Option (Nat × Nat)} : ∀ {vs : List (Nat × Value)} {cs r : List Value}, fillL place cs (cellsP vs) = some r → Instr.fill place cs.toArray vs = some r.toArray
  | [], cs, r, h => by
    simp only [cellsP, fillL, Option.some.injEq] at h
    subst h
    rfl
  | (i, v) :: vs, cs, r, h => by
    simp only [cellsP, fillL] at h
    cases hp : place i with
    | none => rw [hp] at h; cases h
    | some os =>
      obtain ⟨off, size⟩ := os
      rw [hp] at h
      dsimp only at h
      cases hb : (Nat.beq v.cells.toList.length size && Nat.ble (off + v.cells.toList.length) cs.length) with
      | false => rw [hb] at h; cases h
      | true =>
        rw [hb] at h
        simp only [Bool.and_eq_true] at hb
        have h1 := Nat.eq_of_beq_eq_true hb.1
        have h2 := Nat.le_of_ble_eq_true hb.2
        rw [Array.length_toList] at h1 h2
        have h3 := fill_of (vs := vs) h
        unfold Instr.fill
        rw [hp]
        have hc : ¬ ((decide (v.cells.size ≠ size) || decide (off + v.cells.size > cs.toArray.size)) = true) := by
          simp
          omega
        simp only
        rw [if_neg hc]
        have e : (v.cells.zipIdx.foldl (fun (a : Array Value) (p : Value × Nat) => a.setIfInBounds (off + p.2) p.1) cs.toArray) = (cs.take off ++ v.cells.toList ++ cs.drop (off + v.cells.toList.length)).toArray := by
          have := fold_set off v.cells.toList 0 cs.toArray (by simp; omega)
          rw [Nat.add_zero] at this
          rw [← this]
          rw [← Array.foldl_toList, Array.toList_zipIdx]
        exact (congrArg (fun z => Instr.fill place z vs) e).trans h3
/-- Where the fields of a struct, or the elements of an array, lie. -/
def plc (P : Program) (t : TypeId) : Option (List (Nat × Nat)) := match P.underlying t with
  | some (.array n e) => (P.info? e).map fun ie => (List.range n).map fun i => (i * ie.size, ie.size)
  | some (.struct fields) => fields.toList.mapM (fun f => (P.info? f.type).map fun i => (f.offset, i.size))
  | _ => none
theorem fillL_mono {p q : Nat → Option (Nat × Nat)} (h : ∀ i x, p i = some x → q i = some x) : ∀ {vs : List (Nat × List Value)} {cs r : List Value}, fillL p cs vs = some r → fillL q cs vs = some r
  | [], cs, r, e => e
  | (i, v) :: vs, cs, r, e => by
    unfold fillL at e ⊢
    cases hp : p i with
    | none => rw [hp] at e; cases e
    | some os =>
      obtain ⟨off, size⟩ := os
      rw [hp] at e
      rw [h i _ hp]
      dsimp only at e ⊢
      cases hb : (Nat.beq v.length size && Nat.ble (off + v.length) cs.length) with
      | false => rw [hb] at e; cases e
      | true =>
        rw [hb] at e
        exact fillL_mono h e
section
variable {P : Program} {F : Fr} {w : World} {t e : TypeId}
theorem Y_build {parts : List (Nat × Operand)} {vs : List (Nat × Value)} {z : Value} {pl : List (Nat × Nat)} {cs : List Value} (hz : zr P t = some z) (hp : plc P t = some pl) (he : evp F parts = some vs)
    (hf : fillL (fun i => pl[i]?) z.cells.toList (cellsP vs) = some cs) : Yl P F (.build t parts.toArray) (.agg cs.toArray) w w := fun D _ _ _ _ _ => by
  have hb : P.built t vs = some cs.toArray := by
    unfold zr at hz
    unfold plc at hp
    unfold Program.built
    obtain ⟨it, hit, hze⟩ := Option.bind_eq_some_iff.1 hz
    rw [hit]
    cases hu : P.underlying t with
    | none => rw [hu] at hp; cases hp
    | some d =>
      rw [hu] at hp
      cases d <;> try (cases hp; done)
      case array n e =>
        obtain ⟨ie, hie, hpl⟩ := Option.map_eq_some_iff.1 hp
        simp only [hze, hie]
        have := fill_of (place := fun i => some (i * ie.size, ie.size)) (fillL_mono (q := fun i => some (i * ie.size, ie.size)) (fun i x hx => by
          subst hpl
          simp only [List.getElem?_map] at hx
          obtain ⟨j, hj, hjx⟩ := Option.map_eq_some_iff.1 hx
          obtain ⟨hl, hv⟩ := List.getElem?_eq_some_iff.1 hj
          simp only [List.getElem_range] at hv
          subst hv
          rw [← hjx]) hf)
        rw [Array.toArray_toList] at this
        exact this
      case struct fields =>
        simp only [hze]
        have hp' : fields.toList.mapM (fun f => (P.info? f.type).map fun i => (f.offset, i.size)) = some pl := hp
        rw [hp']
        have := fill_of (place := fun i => pl.toArray[i]?) (vs := vs) (cs := z.cells.toList) (r := cs) (by simpa using hf)
        rw [Array.toArray_toList] at this
        exact this
  have hr := run_build (P := P) w t vs.toArray cs.toArray (by simpa using hb)
  have hm := evp_eval (D := D) he
  simp only [execOp]
  rw [show (parts.toArray.map fun x => (x.fst, (Act.mk F.list.toArray D).eval x.snd)) = vs.toArray by rw [← hm]; simp]
  simp [hr]
/-- A slice that is written out. -/
theorem Y_bsN {len s : Nat} {parts : List (Nat × Operand)} {vs : List (Nat × Value)} {zv : Value} {cs : List Value} (ht : P.underlying t = some (.slice e)) (hz : zr P e = some zv) (hs : sz P e = some s) (he : evp F parts = some vs)
    (hf : fillL (fun i => some (i * s, s)) (zeros zv.cells.toList len) (cellsP vs) = some cs) (hzs : zv.cells.size = s) (h0 : 0 < s) (h1 : 0 < len) (h9 : len * s ≤ 1000) :
    Yl P F (.buildSlice t len parts.toArray) (.slice (some ⟨w.heap.size, 0, none⟩) len len) w (w.alloc (.cells cs.toArray e)) := fun D _ _ _ _ _ => by
  have hm := evp_eval (D := D) he
  have a1 : ¬ (2 ^ 24 < len * s) := by omega
  have a2 : ¬ (len * s = 0) := by
    have := Nat.mul_pos h1 h0
    omega
  have hfill := fill_of hf
  have hzl : zv.cells.toList.length = s := by simpa using hzs
  have hmade := made_zeros zv.cells.toList (by omega) len
  rw [hzl, Array.toArray_toList] at hmade
  unfold madeCells at hmade
  simp only [execOp]
  rw [show (parts.toArray.map fun x => (x.fst, (Act.mk F.list.toArray D).eval x.snd)) = vs.toArray by rw [← hm]; simp]
  simp [Instr.buildSlice, run_underlying ht, sz_run hs, zr_run hz, a1, a2, newRow]
  have a3 : ¬ (len = 0 ∨ s = 0) := by omega
  have hmade' : Array.map (fun x => zv.cells[x % zv.cells.size]!) (Array.range (len * s)) = (zeros zv.cells.toList len).toArray := hmade
  first
    | rw [hmade', hfill]
    | (simp only [hmade', hfill])
  try simp
end
section
variable {P : Program} {F : Fr} {w : World} {t t' : TypeId} {x y : Operand} {a b : Int}
theorem Y_rem {c : Int} (hx : ev F x = some (.int .i64 a)) (hy : ev F y = some (.int .i64 b)) (h0 : 0 ≤ a) (hb : 0 < b) (hc : a % b = c) : Yl P F (.binOp .rem t x y t') (.int .i64 c) w w := fun D _ _ _ _ _ => by
  subst hc
  have : ¬ b = 0 := by omega
  simp [execOp, ev_eval (D := D) hx, ev_eval (D := D) hy, eqGuard_rem, binOp_rem, Op.intDiv, this]
  exact Int.tmod_eq_emod_of_nonneg h0
theorem Y_quo {c : Int} (hx : ev F x = some (.int .i64 a)) (hy : ev F y = some (.int .i64 b)) (h0 : 0 ≤ a) (ha : a ≤ 9223372036854775807) (hb : 0 < b) (hc : a / b = c) : Yl P F (.binOp .quo t x y t') (.int .i64 c) w w := fun D _ _ _ _ _ => by
  subst hc
  have h1 : ¬ b = 0 := by omega
  have h2 : 0 ≤ a / b := Int.ediv_nonneg h0 (by omega)
  have h3 : a / b ≤ a := Int.ediv_le_self b h0
  simp [execOp, ev_eval (D := D) hx, ev_eval (D := D) hy, eqGuard_quo, binOp_quo, Op.intDiv, h1]
  rw [Int.tdiv_eq_ediv_of_nonneg h0, IntKind.wrap_i64]
  omega
theorem Y_mul {c : Int} (hx : ev F x = some (.int .i64 a)) (hy : ev F y = some (.int .i64 b)) (hc : a * b = c) (h1 : -9223372036854775808 ≤ c) (h2 : c ≤ 9223372036854775807) : Yl P F (.binOp .mul t x y t') (.int .i64 c) w w := fun D _ _ _ _ _ => by
  subst hc
  simp [execOp, ev_eval (D := D) hx, ev_eval (D := D) hy, eqGuard_mul, binOp_mul, Op.intArith]
  rw [IntKind.wrap_i64]
  omega
end
section
variable {P : Program} {ops : Array Oper} {Q : Exit → Act → World → Prop} {S : World → Prop} {rest : List Oper} {fuel : Nat} {lst : List Bool} {F : Fr} {D : List Deferred} {w : World}
  {d : Tmp} {ty : TypeId} {pos : String} {af : Array Edge} {e t : TypeId} {x y y2 : Operand} {zv : Value} {s n cap i : Nat} {A : Option Addr} {Pr : Nat → Prop} {us : List Value}
theorem S_bsN {len : Nat} {parts : List (Nat × Operand)} {vs : List (Nat × Value)} {cs : List Value} (ht : P.underlying t = some (.slice e)) (hz : zr P e = some zv) (hs : sz P e = some s) (he : evp F parts = some vs)
    (hf : fillL (fun i => some (i * s, s)) (zeros zv.cells.toList len) (cellsP vs) = some cs)
    (k : ∀ b w', w.heap.size ≤ b → Grow w w' → Blk w' b e cs.toArray → wpList P ops Q rest ⟨(F.put d (.slice (some ⟨b, 0, none⟩) len len)).list.toArray, D⟩ w') (hzs : zv.cells.size = s := by rfl) (h0 : 0 < s := by decide) (h1 : 0 < len := by decide) (h9 : len * s ≤ 1000 := by decide) :
    wpList P ops Q (⟨some d, .buildSlice t len parts.toArray, ty, pos, af, none⟩ :: rest) ⟨F.list.toArray, D⟩ w :=
  S_val (Y_bsN ht hz hs he hf hzs h0 h1 h9) (k _ _ (Nat.le_refl _) (grow_alloc _ _) (Blk.new _ _ _))
theorem E_bsN {len : Nat} {parts : List (Nat × Operand)} {vs : List (Nat × Value)} {cs : List Value} (hi : ops[i]? = some ⟨some d, .buildSlice t len parts.toArray, ty, pos, af, none⟩) (ht : P.underlying t = some (.slice e)) (hz : zr P e = some zv) (hs : sz P e = some s) (he : evp F parts = some vs)
    (hf : fillL (fun i => some (i * s, s)) (zeros zv.cells.toList len) (cellsP vs) = some cs)
    (k : ∀ b w', w.heap.size ≤ b → Grow w w' → Blk w' b e cs.toArray → S w' ∧ wpAnyH P .any ops Q S fuel (lst.set i true).toArray ⟨(F.put d (.slice (some ⟨b, 0, none⟩) len len)).list.toArray, D⟩ w') (hzs : zv.cells.size = s := by rfl) (h0 : 0 < s := by decide) (h1 : 0 < len := by decide) (h9 : len * s ≤ 1000 := by decide) :
    dOp P ops Q S fuel lst ⟨F.list.toArray, D⟩ w i := by
  have h := k _ _ (Nat.le_refl _) (grow_alloc _ _) (Blk.new w e cs.toArray)
  exact E_val hi (Y_bsN ht hz hs he hf hzs h0 h1 h9) h.1 h.2
/-- A slice from i on. -/
theorem Y_sliceL {j : Nat} {q : IntKind} (ht : P.underlying t = some (.slice e)) (hs : sz P e = some s) (hx : ev F x = some (.slice A n cap)) (hy : ev F y = some (.int q (j : Int))) (hj : j ≤ n) :
    Yl P F (.slice t x (some y) none none) (sliced A j n cap s) w w := fun D _ _ _ _ _ => by
  have he : P.elem t = e := by simp [Program.elem, ht]
  have h := run_slice_l (P := P) (w := w) t A n cap (by rw [he]; exact ht) q (j : Int) (by omega) (by omega)
  have h2 := run_sliceAt_slice (P := P) (w := w) t (.slice A n cap) (some (.int q (j : Int))) none none (by rw [he]; exact ht)
  rw [he, sz_run hs] at h
  simp [execOp, ev_eval (D := D) hx, ev_eval (D := D) hy, h2, h, Result.andThen]
theorem R1.part {j k : Nat} (h : R1 Pr w A us) (hk : k ≤ cap) (hj : j ≤ k) : ∃ A', sliced A j k cap 1 = .slice A' (k - j) (cap - j) ∧ R1 Pr w A' ((us.take k).drop j) := by
  unfold sliced
  refine ⟨_, rfl, fun i u hu => ?_⟩
  have hl := (List.getElem?_eq_some_iff.1 hu).1
  simp only [List.length_drop, List.length_take] at hl
  rw [List.getElem?_drop, List.getElem?_take, if_pos (by omega)] at hu
  obtain ⟨g, o, rfl, hp, hc⟩ := h _ u hu
  by_cases hcj : cap - 0 = j
  · omega
  · rw [if_neg (by omega)]
    refine ⟨g, o + j * 1, by simp [Addr.add_lit], hp, ?_⟩
    rw [show o + j * 1 + i * 1 = o + (j + i) * 1 by omega]
    exact hc
end
theorem slots_eta (L : List Value) (N : Nat) (h : L.length = N) : L = (List.range N).map (fun i => L.getD i undef) := by
  apply List.ext_getElem
  · simp [h]
  · intro i h1 h2
    rw [List.getElem_map, List.getElem_range, List.getD_eq_getElem?_getD, List.getElem?_eq_getElem h1]
    rfl
theorem slot_d {L : List Value} {i : Nat} {v : Value} (h : L[i]? = some v) : L.getD i undef = v := by
  rw [List.getD_eq_getElem?_getD, h]
  rfl
end
/-! Ty -/
section
open Go Go.RowKit
theorem follows : Try.prog.follows .mixedOrders = true := by kernel_rfl
theorem sz3 : sz Try.prog 3 = some 1 := by kernel_rfl
theorem zr3 : zr Try.prog 3 = some (.int .i64 0) := by kernel_rfl
theorem by3 : byt Try.prog 3 = some 8 := by kernel_rfl
theorem sz4 : sz Try.prog 4 = some 1 := by kernel_rfl
theorem zr4 : zr Try.prog 4 = some (.bool false) := by kernel_rfl
theorem by4 : byt Try.prog 4 = some 1 := by kernel_rfl
theorem sz5 : sz Try.prog 5 = some 1 := by kernel_rfl
theorem sz23 : sz Try.prog 23 = some 1 := by kernel_rfl
theorem zr23 : zr Try.prog 23 = some (.slice none 0 0) := by kernel_rfl
theorem by23 : byt Try.prog 23 = some 24 := by kernel_rfl
theorem sz30 : sz Try.prog 30 = some 1 := by kernel_rfl
theorem sz32 : sz Try.prog 32 = some 2 := by kernel_rfl
theorem zr32 : zr Try.prog 32 = some (.agg #[.slice none 0 0, .slice none 0 0]) := by kernel_rfl
theorem sz53 : sz Try.prog 53 = some 3 := by kernel_rfl
theorem zr53 : zr Try.prog 53 = some (.agg #[.slice none 0 0, .slice none 0 0, .slice none 0 0]) := by kernel_rfl
theorem sz63 : sz Try.prog 63 = some 3 := by kernel_rfl
theorem zr63 : zr Try.prog 63 = some (.agg #[.bool false, .int .i64 0, .slice none 0 0]) := by kernel_rfl
theorem by63 : byt Try.prog 63 = some 40 := by kernel_rfl
theorem sz78 : sz Try.prog 78 = some 1 := by kernel_rfl
theorem zr78 : zr Try.prog 78 = some (.int .u64 0) := by kernel_rfl
theorem sz92 : sz Try.prog 92 = some 3 := by kernel_rfl
theorem zr92 : zr Try.prog 92 = some (.agg #[.int .i64 0, .int .i64 0, .bool false]) := by kernel_rfl
theorem zr118 : zr Try.prog 118 = some (.agg #[.slice none 0 0, .int .i64 0]) := by kernel_rfl
theorem sz133 : sz Try.prog 133 = some 4 := by kernel_rfl
theorem zr133 : zr Try.prog 133 = some (.agg #[.int .i64 0, .int .i64 0, .int .i64 0, .int .i64 0]) := by kernel_rfl
theorem by133 : byt Try.prog 133 = some 32 := by kernel_rfl
theorem fz32_0 : sz Try.prog 30 = some 1 := by kernel_rfl
theorem fz32_1 : sz Try.prog 23 = some 1 := by kernel_rfl
theorem fz53_0 : sz Try.prog 32 = some 2 := by kernel_rfl
theorem fz53_1 : sz Try.prog 23 = some 1 := by kernel_rfl
theorem fz63_0 : sz Try.prog 4 = some 1 := by kernel_rfl
theorem fz63_1 : sz Try.prog 3 = some 1 := by kernel_rfl
theorem fz63_2 : sz Try.prog 23 = some 1 := by kernel_rfl
theorem fz92_0 : sz Try.prog 3 = some 1 := by kernel_rfl
theorem fz92_1 : sz Try.prog 3 = some 1 := by kernel_rfl
theorem fz92_2 : sz Try.prog 4 = some 1 := by kernel_rfl
theorem fz118_0 : sz Try.prog 39 = some 1 := by kernel_rfl
theorem fz118_1 : sz Try.prog 3 = some 1 := by kernel_rfl
theorem fz133_0 : sz Try.prog 3 = some 1 := by kernel_rfl
theorem fz133_1 : sz Try.prog 3 = some 1 := by kernel_rfl
theorem fz133_2 : sz Try.prog 3 = some 1 := by kernel_rfl
theorem fz133_3 : sz Try.prog 3 = some 1 := by kernel_rfl
theorem pc32 : plc Try.prog 32 = some [(0, 1), (1, 1)] := by kernel_rfl
theorem pc53 : plc Try.prog 53 = some [(0, 2), (2, 1)] := by kernel_rfl
theorem pc63 : plc Try.prog 63 = some [(0, 1), (1, 1), (2, 1)] := by kernel_rfl
theorem pc92 : plc Try.prog 92 = some [(0, 1), (1, 1), (2, 1)] := by kernel_rfl
theorem pc118 : plc Try.prog 118 = some [(0, 1), (1, 1)] := by kernel_rfl
theorem pc133 : plc Try.prog 133 = some [(0, 1), (1, 1), (2, 1), (3, 1)] := by kernel_rfl
theorem en21 : Enters Try.prog 21 := enters_of Try.func21 (by kernel_rfl) rfl
theorem en22 : Enters Try.prog 22 := enters_of Try.func22 (by kernel_rfl) rfl
theorem en23 : Enters Try.prog 23 := enters_of Try.func23 (by kernel_rfl) rfl
theorem en27 : Enters Try.prog 27 := enters_of Try.func27 (by kernel_rfl) rfl
theorem en28 : Enters Try.prog 28 := enters_of Try.func28 (by kernel_rfl) rfl
theorem en29 : Enters Try.prog 29 := enters_of Try.func29 (by kernel_rfl) rfl
theorem en30 : Enters Try.prog 30 := enters_of Try.func30 (by kernel_rfl) rfl
theorem en32 : Enters Try.prog 32 := enters_of Try.func32 (by kernel_rfl) rfl
theorem en35 : Enters Try.prog 35 := enters_of Try.func35 (by kernel_rfl) rfl
theorem en36 : Enters Try.prog 36 := enters_of Try.func36 (by kernel_rfl) rfl
theorem en37 : Enters Try.prog 37 := enters_of Try.func37 (by kernel_rfl) rfl
theorem en39 : Enters Try.prog 39 := enters_of Try.func39 (by kernel_rfl) rfl
theorem en40 : Enters Try.prog 40 := enters_of Try.func40 (by kernel_rfl) rfl
theorem en41 : Enters Try.prog 41 := enters_of Try.func41 (by kernel_rfl) rfl
theorem en42 : Enters Try.prog 42 := enters_of Try.func42 (by kernel_rfl) rfl
theorem en43 : Enters Try.prog 43 := enters_of Try.func43 (by kernel_rfl) rfl
theorem en44 : Enters Try.prog 44 := enters_of Try.func44 (by kernel_rfl) rfl
theorem en45 : Enters Try.prog 45 := enters_of Try.func45 (by kernel_rfl) rfl
theorem en46 : Enters Try.prog 46 := enters_of Try.func46 (by kernel_rfl) rfl
theorem en47 : Enters Try.prog 47 := enters_of Try.func47 (by kernel_rfl) rfl
theorem en48 : Enters Try.prog 48 := enters_of Try.func48 (by kernel_rfl) rfl
theorem en49 : Enters Try.prog 49 := enters_of Try.func49 (by kernel_rfl) rfl
theorem en52 : Enters Try.prog 52 := enters_of Try.func52 (by kernel_rfl) rfl
theorem en58 : Enters Try.prog 58 := enters_of Try.func58 (by kernel_rfl) rfl
theorem en59 : Enters Try.prog 59 := enters_of Try.func59 (by kernel_rfl) rfl
theorem en62 : Enters Try.prog 62 := enters_of Try.func62 (by kernel_rfl) rfl
theorem en67 : Enters Try.prog 67 := enters_of Try.func67 (by kernel_rfl) rfl
theorem en68 : Enters Try.prog 68 := enters_of Try.func68 (by kernel_rfl) rfl
theorem en69 : Enters Try.prog 69 := enters_of Try.func69 (by kernel_rfl) rfl
theorem en70 : Enters Try.prog 70 := enters_of Try.func70 (by kernel_rfl) rfl
theorem en71 : Enters Try.prog 71 := enters_of Try.func71 (by kernel_rfl) rfl
theorem en73 : Enters Try.prog 73 := enters_of Try.func73 (by kernel_rfl) rfl
theorem en74 : Enters Try.prog 74 := enters_of Try.func74 (by kernel_rfl) rfl
theorem en75 : Enters Try.prog 75 := enters_of Try.func75 (by kernel_rfl) rfl
theorem en76 : Enters Try.prog 76 := enters_of Try.func76 (by kernel_rfl) rfl
theorem en77 : Enters Try.prog 77 := enters_of Try.func77 (by kernel_rfl) rfl
theorem en78 : Enters Try.prog 78 := enters_of Try.func78 (by kernel_rfl) rfl
theorem en79 : Enters Try.prog 79 := enters_of Try.func79 (by kernel_rfl) rfl
theorem en80 : Enters Try.prog 80 := enters_of Try.func80 (by kernel_rfl) rfl
theorem en82 : Enters Try.prog 82 := enters_of Try.func82 (by kernel_rfl) rfl
theorem en83 : Enters Try.prog 83 := enters_of Try.func83 (by kernel_rfl) rfl
theorem en84 : Enters Try.prog 84 := enters_of Try.func84 (by kernel_rfl) rfl
theorem en85 : Enters Try.prog 85 := enters_of Try.func85 (by kernel_rfl) rfl
theorem en87 : Enters Try.prog 87 := enters_of Try.func87 (by kernel_rfl) rfl
theorem en89 : Enters Try.prog 89 := enters_of Try.func89 (by kernel_rfl) rfl
theorem en91 : Enters Try.prog 91 := enters_of Try.func91 (by kernel_rfl) rfl
theorem en92 : Enters Try.prog 92 := enters_of Try.func92 (by kernel_rfl) rfl
theorem en93 : Enters Try.prog 93 := enters_of Try.func93 (by kernel_rfl) rfl
theorem en94 : Enters Try.prog 94 := enters_of Try.func94 (by kernel_rfl) rfl
theorem en95 : Enters Try.prog 95 := enters_of Try.func95 (by kernel_rfl) rfl
theorem en96 : Enters Try.prog 96 := enters_of Try.func96 (by kernel_rfl) rfl
theorem en97 : Enters Try.prog 97 := enters_of Try.func97 (by kernel_rfl) rfl
theorem en98 : Enters Try.prog 98 := enters_of Try.func98 (by kernel_rfl) rfl
theorem en99 : Enters Try.prog 99 := enters_of Try.func99 (by kernel_rfl) rfl
theorem en100 : Enters Try.prog 100 := enters_of Try.func100 (by kernel_rfl) rfl
theorem en105 : Enters Try.prog 105 := enters_of Try.func105 (by kernel_rfl) rfl
theorem en106 : Enters Try.prog 106 := enters_of Try.func106 (by kernel_rfl) rfl
theorem en107 : Enters Try.prog 107 := enters_of Try.func107 (by kernel_rfl) rfl
theorem en108 : Enters Try.prog 108 := enters_of Try.func108 (by kernel_rfl) rfl
theorem en109 : Enters Try.prog 109 := enters_of Try.func109 (by kernel_rfl) rfl
theorem en110 : Enters Try.prog 110 := enters_of Try.func110 (by kernel_rfl) rfl
theorem en113 : Enters Try.prog 113 := enters_of Try.func113 (by kernel_rfl) rfl
theorem en116 : Enters Try.prog 116 := enters_of Try.func116 (by kernel_rfl) rfl
theorem en117 : Enters Try.prog 117 := enters_of Try.func117 (by kernel_rfl) rfl
theorem en118 : Enters Try.prog 118 := enters_of Try.func118 (by kernel_rfl) rfl
theorem en119 : Enters Try.prog 119 := enters_of Try.func119 (by kernel_rfl) rfl
theorem en120 : Enters Try.prog 120 := enters_of Try.func120 (by kernel_rfl) rfl
theorem en121 : Enters Try.prog 121 := enters_of Try.func121 (by kernel_rfl) rfl
theorem en122 : Enters Try.prog 122 := enters_of Try.func122 (by kernel_rfl) rfl
theorem en123 : Enters Try.prog 123 := enters_of Try.func123 (by kernel_rfl) rfl
theorem en125 : Enters Try.prog 125 := enters_of Try.func125 (by kernel_rfl) rfl
theorem en126 : Enters Try.prog 126 := enters_of Try.func126 (by kernel_rfl) rfl
theorem en127 : Enters Try.prog 127 := enters_of Try.func127 (by kernel_rfl) rfl
theorem en130 : Enters Try.prog 130 := enters_of Try.func130 (by kernel_rfl) rfl
end
/-! WalkA -/
section
open Go Go.RowKit
attribute [local irreducible] wpList wpAnyH Code.wp dOp
theorem bF {p : Prop} [Decidable p] (h : ¬ p) : Value.bool false = .bool (decide p) := by simp [h]
theorem bT {p : Prop} [Decidable p] (h : p) : Value.bool true = .bool (decide p) := by simp [h]
theorem take_eq {α : Type} {xs ys : List α} {k : Nat} (h : xs.take k = ys.take k) (hx : k < xs.length) (hy : k < ys.length) (e : xs[k] = ys[k]) : xs.take (k + 1) = ys.take (k + 1) := by
  rw [List.take_succ_eq_append_getElem hx, List.take_succ_eq_append_getElem hy, h, e]
theorem take_all {α : Type} {xs ys : List α} {k : Nat} (h : xs.take k = ys.take k) (hx : xs.length ≤ k) (hy : ys.length ≤ k) : xs = ys := by
  rwa [List.take_of_length_le hx, List.take_of_length_le hy] at h
instance : DecidableEq LC := fun a b => by
  cases a; cases b
  simp only [LC.mk.injEq]
  infer_instance
instance : DecidableEq LH := fun a b => by
  cases a; cases b
  simp only [LH.mk.injEq]
  infer_instance
theorem lc_ext {a b : LC} (h1 : a.used = b.used) (h2 : a.data = b.data) (h3 : a.refs = b.refs) : a = b := by
  cases a; cases b
  simp_all
theorem lh_ext {a b : LH} (h1 : a.cells = b.cells) (h2 : a.roots = b.roots) : a = b := by
  cases a; cases b
  simp_all
end
/-! WalkB -/
section
open Go Go.RowKit
attribute [local irreducible] wpList wpAnyH Code.wp dOp
set_option maxHeartbeats 400000 in
set_option maxRecDepth 20000 in
theorem spec_l1In_c (n lo hi : Int) (w : World) :
    Calls Try.prog 52 #[.int .i64 n, .int .i64 lo, .int .i64 hi] w (Ret fun v w' => v = .bool (decide (lo ≤ n ∧ n ≤ hi)) ∧ w' = w) := by
 refine enter Try.func52 rfl Try.ntmps52 (L := [_,_,_,_,_,_,_,_,_,_,_,_,_,_,_]) rfl ?_
 have G := Mod.refl No w
 refine wp_seq_k fun K1 hK1 => ?_
 refine Sb 15 rfl ?_  -- 0
 refine S_val (Y_assign rfl) ?_
 refine S_nl rfl rfl ?_
 refine th_n (hK1 _ _ ?_)
 clear hK1 K1
 refine wp_seq_k fun K2 hK2 => ?_
 refine Sb 15 rfl ?_  -- 1
 refine S_val (Y_move rfl) ?_
 refine S_val (Y_move rfl) ?_
 refine S_val (Y_geq rfl rfl) ?_
 refine S_val (Y_move rfl) ?_
 refine S_g 10 rfl (fun hb1 => ?_) (fun hb1 => ?_)  -- g1
 · -- g1T
  replace hb1 := nb_tt hb1
  refine S_on rfl rfl ?_
  refine S_val (Y_move rfl) ?_
  refine S_on rfl rfl ?_
  refine S_val (Y_move rfl) ?_
  refine S_on rfl rfl ?_
  refine S_val (Y_leq rfl rfl) ?_
  refine S_val (Y_pickT rfl rfl) ?_
  refine S_val (Y_assign rfl) ?_
  refine S_nl rfl rfl ?_
  refine th_n (hK2 _ _ ?_)
  clear hK2 K2
  refine wp_ret ?_
  refine ret_r1 rfl rfl ?_  -- r1
  first | exact ⟨bT (by omega), rfl⟩ | exact ⟨bF (by omega), rfl⟩ | exact ⟨bI (by omega), rfl⟩
 · -- g1F
  replace hb1 := nb_tf hb1
  refine S_off rfl rfl ?_
  refine S_off rfl rfl ?_
  refine S_off rfl rfl ?_
  refine S_val (Y_pickF rfl rfl) ?_
  refine S_val (Y_assign rfl) ?_
  refine S_nl rfl rfl ?_
  refine th_n (hK2 _ _ ?_)
  clear hK2 K2
  refine wp_ret ?_
  refine ret_r1 rfl rfl ?_  -- r2
  first | exact ⟨bT (by omega), rfl⟩ | exact ⟨bF (by omega), rfl⟩ | exact ⟨bI (by omega), rfl⟩
set_option maxHeartbeats 400000 in
set_option maxRecDepth 20000 in
theorem impl_leads_c (Pr : Nat → Prop) (A B : Option Addr) (h : LH) (c d : Nat) (w : World) (hA : RC Pr w A h.cells) (r : Int) :
    Calls Try.prog 96 #[.agg #[.slice A h.cells.length c, .slice B h.roots.length d], .int .i64 r] w (Ret fun v w' => v = .bool (leadsB h.cells r) ∧ Grow w w') := by
 refine enter Try.func96 rfl Try.ntmps96 (L := [_,_,_,_,_,_,_,_,_,_,_,_,_,_,_,_,_,_,_,_,_,_,_,_,_,_]) rfl ?_
 have G := Mod.refl No w
 have hA0 := hA
 refine wp_seq_k fun K1 hK1 => ?_
 refine Sb 26 rfl ?_  -- 0
 refine S_box (cs := [_, _]) rfl rfl ?_
 intro b1 w1 fb1 g1 B1
 have lb1 := B1.lt
 replace hA := hA.grow g1
 replace G := G.grow g1
 have zg1 := g1.size
 refine S_val (Y_assign rfl) ?_
 refine S_nl rfl rfl ?_
 refine th_n (hK1 _ _ ?_)
 clear hK1 K1
 refine wp_seq_k fun K2 hK2 => ?_
 refine Sb 26 rfl ?_  -- 1
 refine S_val (Y_move rfl) ?_
 refine S_val (Y_eql rfl rfl) ?_
 refine S_val (Y_move rfl) ?_
 refine S_g 7 rfl (fun hb1 => ?_) (fun hb1 => ?_)  -- g1
 · -- g1T
  replace hb1 := nb_tt hb1
  refine S_off rfl rfl ?_
  refine S_off rfl rfl ?_
  refine S_off rfl rfl ?_
  refine S_offU rfl rfl ?_
  refine S_offU rfl rfl ?_
  refine S_offU rfl rfl ?_
  refine S_offU rfl rfl ?_
  refine S_offU rfl rfl ?_
  refine S_off rfl rfl ?_
  refine S_off rfl rfl ?_
  refine S_offU rfl rfl ?_
  refine S_offU rfl rfl ?_
  refine S_offU rfl rfl ?_
  refine S_offU rfl rfl ?_
  refine S_offU rfl rfl ?_
  refine S_offU rfl rfl ?_
  refine S_off rfl rfl ?_
  refine S_val (Y_pickT rfl rfl) ?_
  refine S_val (Y_assign rfl) ?_
  refine S_nl rfl rfl ?_
  refine th_n (hK2 _ _ ?_)
  clear hK2 K2
  refine wp_ret ?_
  refine ret_r1 rfl rfl ?_  -- r1
  exact ⟨congrArg Value.bool (by first | (subst hb1; exact (leadsB_m1 _).symm) | exact (leadsB_at (by omega)).symm | exact (leadsB_no hb1 (by omega)).symm), G⟩
 · -- g1F
  replace hb1 := nb_tf hb1
  refine S_on rfl rfl ?_
  refine S_val (Y_move rfl) ?_
  refine S_on rfl rfl ?_
  refine S_val (Y_geq rfl rfl) ?_
  refine S_on rfl rfl ?_
  refine S_val (Y_move rfl) ?_
  refine S_g 10 rfl (fun hb2 => ?_) (fun hb2 => ?_)  -- g2
  · -- g2T
   replace hb2 := nb_tt hb2
   obtain ⟨n, rfl⟩ := Int.eq_ofNat_of_zero_le hb2
   refine S_on rfl rfl ?_
   refine S_val (Y_move rfl) ?_
   refine S_on rfl rfl ?_
   refine S_val (Y_field Try.underlying32 rfl fz32_0 (by decide) rfl) ?_
   refine S_on rfl rfl ?_
   refine S_val (Y_load Try.underlying30 rfl rfl (B1.at (by rfl))) ?_  -- l1
   refine S_on rfl rfl ?_
   refine S_val (Y_len Try.underlying30 rfl) ?_
   refine S_on rfl rfl ?_
   refine S_val (Y_lss rfl rfl) ?_
   refine S_on rfl rfl ?_
   refine S_val (Y_pickT rfl rfl) ?_
   refine S_on rfl rfl ?_
   refine S_val (Y_move rfl) ?_
   refine S_g 17 rfl (fun hb3 => ?_) (fun hb3 => ?_)  -- g3
   · -- g3T
    first | with_reducible (replace hb3 := nb_nt hb3) | with_reducible (replace hb3 := nb_tt hb3) | with_reducible (replace hb3 := nb_bt hb3) | skip
    obtain ⟨g1, o1, E1, d1, rfl, hp1, cc1, _⟩ := hA.cell (k := n) (by omega)
    refine S_on rfl rfl ?_
    refine S_val (Y_field Try.underlying32 rfl fz32_0 (by decide) rfl) ?_
    refine S_on rfl rfl ?_
    refine S_val (Y_load Try.underlying30 rfl rfl (B1.at (by rfl))) ?_  -- l2
    refine S_on rfl rfl ?_
    refine S_val (Y_move rfl) ?_
    refine S_on rfl rfl ?_
    refine S_val (Y_index Try.underlying30 sz63 rfl rfl (by first | assumption | omega)) ?_
    refine S_on rfl rfl ?_
    refine S_val (Y_field Try.underlying63 rfl fz63_0 (by decide) rfl) ?_
    refine S_on rfl rfl ?_
    refine S_val (Y_load Try.underlying4 rfl rfl (by first | assumption | exact cc1.at (by rfl) | exact B1.at (by rfl))) ?_  -- l3
    refine S_on rfl rfl ?_
    refine S_val (Y_pickT rfl rfl) ?_
    refine S_val (Y_pickF rfl rfl) ?_
    refine S_val (Y_assign rfl) ?_
    refine S_nl rfl rfl ?_
    refine th_n (hK2 _ _ ?_)
    clear hK2 K2
    refine wp_ret ?_
    refine ret_r1 rfl rfl ?_  -- r2
    exact ⟨congrArg Value.bool (by first | (subst hb1; exact (leadsB_m1 _).symm) | exact (leadsB_at (by omega)).symm | exact (leadsB_no hb1 (by omega)).symm), G⟩
   · -- g3F
    first | with_reducible (replace hb3 := nb_nf hb3) | with_reducible (replace hb3 := nb_tf hb3) | with_reducible (replace hb3 := nb_bf hb3) | skip
    refine S_off rfl rfl ?_
    refine S_off rfl rfl ?_
    refine S_off rfl rfl ?_
    refine S_off rfl rfl ?_
    refine S_off rfl rfl ?_
    refine S_off rfl rfl ?_
    refine S_on rfl rfl ?_
    refine S_val (Y_pickF rfl rfl) ?_
    refine S_val (Y_pickF rfl rfl) ?_
    refine S_val (Y_assign rfl) ?_
    refine S_nl rfl rfl ?_
    refine th_n (hK2 _ _ ?_)
    clear hK2 K2
    refine wp_ret ?_
    refine ret_r1 rfl rfl ?_  -- r3
    exact ⟨congrArg Value.bool (by first | (subst hb1; exact (leadsB_m1 _).symm) | exact (leadsB_at (by omega)).symm | exact (leadsB_no hb1 (by omega)).symm), G⟩
  · -- g2F
   replace hb2 := nb_tf hb2
   refine S_off rfl rfl ?_
   refine S_off rfl rfl ?_
   refine S_off rfl rfl ?_
   refine S_off rfl rfl ?_
   refine S_off rfl rfl ?_
   refine S_on rfl rfl ?_
   refine S_val (Y_pickF rfl rfl) ?_
   refine S_on rfl rfl ?_
   refine S_val (Y_move rfl) ?_
   refine S_off rfl rfl ?_
   refine S_off rfl rfl ?_
   refine S_off rfl rfl ?_
   refine S_off rfl rfl ?_
   refine S_off rfl rfl ?_
   refine S_off rfl rfl ?_
   refine S_on rfl rfl ?_
   refine S_val (Y_pickF rfl rfl) ?_
   refine S_val (Y_pickF rfl rfl) ?_
   refine S_val (Y_assign rfl) ?_
   refine S_nl rfl rfl ?_
   refine th_n (hK2 _ _ ?_)
   clear hK2 K2
   refine wp_ret ?_
   refine ret_r1 rfl rfl ?_  -- r4
   exact ⟨congrArg Value.bool (by first | (subst hb1; exact (leadsB_m1 _).symm) | exact (leadsB_at (by omega)).symm | exact (leadsB_no hb1 (by omega)).symm), G⟩
set_option maxHeartbeats 400000 in
set_option maxRecDepth 20000 in
theorem impl_cellValid_c (Pr : Nat → Prop) (A B : Option Addr) (h : LH) (c d : Nat) (w : World) (hA : RC Pr w A h.cells) (x : LC) (E : Option Addr) (e : Nat) (hE : R1 Pr w E (ints x.refs)) (hx : x.refs.length ≤ 1048576) :
    Calls Try.prog 95 #[.agg #[.slice A h.cells.length c, .slice B h.roots.length d], .agg #[.bool x.used, .int .i64 x.data, .slice E x.refs.length e]] w (Ret fun v w' => v = .bool (okB h.cells x) ∧ Grow w w') := by
 refine enter Try.func95 rfl Try.ntmps95 (L := [_,_,_,_,_,_,_,_,_,_,_,_,_,_,_,_,_,_,_,_,_,_,_,_,_,_,_,_,_,_,_,_,_,_,_,_,_,_,_,_,_,_,_,_,_]) rfl ?_
 have G := Mod.refl No w
 have hA0 := hA
 have hE0 := hE
 refine wp_seq_k fun K1 hK1 => ?_
 refine Sb 45 rfl ?_  -- 0
 refine S_box (cs := [_, _]) rfl rfl ?_
 intro b1 w1 fb1 g1 B1
 have lb1 := B1.lt
 replace hA := hA.grow g1
 replace hE := hE.grow g1
 replace G := G.grow g1
 have zg1 := g1.size
 refine S_box (cs := [_, _, _]) rfl rfl ?_
 intro b2 w2 fb2 g2 B2
 have lb2 := B2.lt
 replace hA := hA.grow g2
 replace hE := hE.grow g2
 replace G := G.grow g2
 replace B1 := B1.grow g2
 have zg2 := g2.size
 refine S_val (Y_assign rfl) ?_
 refine S_nl rfl rfl ?_
 refine th_n (hK1 _ _ ?_)
 clear hK1 K1
 refine wp_seq_k fun K2 hK2 => ?_
 refine wp_seq_k fun K3 hK3 => ?_
 refine Sb 45 rfl ?_  -- 1
 refine S_val (Y_field Try.underlying63 rfl fz63_0 (by decide) rfl) ?_
 refine S_val (Y_load Try.underlying4 rfl rfl (B2.at (by rfl))) ?_  -- l1
 refine S_val (Y_not rfl) ?_
 refine S_nl rfl rfl ?_
 refine th_n (hK3 _ _ ?_)
 clear hK3 K3
 refine S_if rfl (fun hb1 => ?_) (fun hb1 => ?_)  -- c1
 · -- c1T
  first | with_reducible (replace hb1 := nb_nt hb1) | with_reducible (replace hb1 := nb_tt hb1) | with_reducible (replace hb1 := nb_bt hb1) | skip
  refine wp_seq_k fun K4 hK4 => ?_
  refine Sb 45 rfl ?_  -- 2
  refine S_val (Y_field Try.underlying63 rfl fz63_1 (by decide) rfl) ?_
  refine S_val (Y_load Try.underlying3 rfl rfl (B2.at (by rfl))) ?_  -- l2
  refine S_val (Y_eql rfl rfl) ?_
  refine S_val (Y_move rfl) ?_
  refine S_g 13 rfl (fun hb2 => ?_) (fun hb2 => ?_)  -- g1
  · -- g1T
   replace hb2 := nb_tt hb2
   refine S_on rfl rfl ?_
   refine S_val (Y_field Try.underlying63 rfl fz63_2 (by decide) rfl) ?_
   refine S_on rfl rfl ?_
   refine S_val (Y_load Try.underlying23 rfl rfl (B2.at (by rfl))) ?_  -- l3
   refine S_on rfl rfl ?_
   refine S_val (Y_len Try.underlying23 rfl) ?_
   refine S_on rfl rfl ?_
   refine S_val (Y_eql rfl rfl) ?_
   refine S_val (Y_pickT rfl rfl) ?_
   refine S_val (Y_assign rfl) ?_
   refine S_nl rfl rfl ?_
   refine th_n (hK4 _ _ ?_)
   clear hK4 K4
   refine wp_ret ?_
   refine th_r ?_
   clear hK2 K2
   refine ret_r1 rfl rfl ?_  -- r1
   exact ⟨by unfold okB; first | (rw [decide_eq_decide.2 (okP_n (by assumption))]; first | exact bI (by omega) | exact bF (by omega)) | (rw [decide_eq_decide.2 (okP_u (by assumption))]; first | exact bI (by simp only [hall, true_and]; omega) | exact bF (by omega) | exact bF (fun h => all_false (by omega) hb3 h.1)), G⟩
  · -- g1F
   replace hb2 := nb_tf hb2
   refine S_off rfl rfl ?_
   refine S_off rfl rfl ?_
   refine S_off rfl rfl ?_
   refine S_off rfl rfl ?_
   refine S_val (Y_pickF rfl rfl) ?_
   refine S_val (Y_assign rfl) ?_
   refine S_nl rfl rfl ?_
   refine th_n (hK4 _ _ ?_)
   clear hK4 K4
   refine wp_ret ?_
   refine th_r ?_
   clear hK2 K2
   refine ret_r1 rfl rfl ?_  -- r2
   exact ⟨by unfold okB; first | (rw [decide_eq_decide.2 (okP_n (by assumption))]; first | exact bI (by omega) | exact bF (by omega)) | (rw [decide_eq_decide.2 (okP_u (by assumption))]; first | exact bI (by simp only [hall, true_and]; omega) | exact bF (by omega) | exact bF (fun h => all_false (by omega) hb3 h.1)), G⟩
 · -- c1F
  first | with_reducible (replace hb1 := nb_nf hb1) | with_reducible (replace hb1 := nb_tf hb1) | with_reducible (replace hb1 := nb_bf hb1) | skip
  refine wp_skip ?_
  refine th_n (hK2 _ _ ?_)
  clear hK2 K2
  refine wp_seq_k fun K5 hK5 => ?_
  refine wp_seq_k fun K6 hK6 => ?_
  refine Sb 45 rfl ?_  -- 3
  refine S_val (Y_field Try.underlying63 rfl fz63_2 (by decide) rfl) ?_
  refine S_val (Y_load Try.underlying23 rfl rfl (B2.at (by rfl))) ?_  -- l4
  refine S_val (Y_len Try.underlying23 rfl) ?_
  refine S_val (Y_move rfl) ?_
  refine S_nl rfl rfl ?_
  refine th_n (hK6 _ _ ?_)
  clear hK6 K6
  refine wp_block ?_
  go_loopw [22] (fun u22 wr => (∃ k : Nat, u22 = .int .i64 k ∧ k ≤ x.refs.length ∧ (x.refs.take k).all (leadsB h.cells) = true) ∧ Mod No w2 wr) (fun u22 wr => x.refs.length - (intOf u22).toNat)  -- L1
  case atStart =>
   refine ⟨?_, Mod.refl _ _⟩
   exact ⟨0, rfl, by omega, by simp⟩
  case round =>
   obtain ⟨w3, rfl⟩ : ∃ x : World, x = wr := ⟨_, rfl⟩
   obtain ⟨hrel, g3⟩ := hrel
   replace hA := hA.grow g3
   replace hE := hE.grow g3
   replace G := G.grow g3
   replace B1 := B1.grow g3
   replace B2 := B2.grow g3
   have zg3 := g3.size
   obtain ⟨k, rfl, hk, hs⟩ := hrel
   have GL3 := g3
   refine wp_seq_k fun K7 hK7 => ?_
   refine Sb 45 rfl ?_  -- 4
   refine S_val (Y_lss rfl rfl) ?_
   refine S_nl rfl rfl ?_
   refine th_n (hK7 _ _ ?_)
   clear hK7 K7
   refine wp_seq_k fun K8 hK8 => ?_
   refine S_if rfl (fun hb2 => ?_) (fun hb2 => ?_)  -- c2
   · -- c2T
    replace hb2 := nb_tt hb2
    obtain ⟨g1, o1, rfl, hp1, hc1⟩ := hE.int (k := k) (by omega)
    refine wp_skip ?_
    refine th_n (hK8 _ _ ?_)
    clear hK8 K8
    refine wp_seq_k fun K9 hK9 => ?_
    refine wp_block ?_
    refine wp_seq_k fun K10 hK10 => ?_
    refine Sb 45 rfl ?_  -- 5
    refine S_val (Y_index Try.underlying23 sz3 rfl rfl (by first | assumption | omega)) ?_
    refine S_val (Y_load Try.underlying3 rfl rfl (by first | assumption | exact B1.at (by rfl) | exact B2.at (by rfl))) ?_  -- l5
    refine S_val (Y_assign rfl) ?_
    refine S_nl rfl rfl ?_
    refine th_n (hK10 _ _ ?_)
    clear hK10 K10
    refine wp_seq_k fun K11 hK11 => ?_
    refine Sb 45 rfl ?_  -- 6
    refine S_val (Y_loadS Try.underlying32 rfl sz32 rfl (B1.row (by rfl))) ?_  -- l6
    refine S_val (Y_move rfl) ?_
    refine S_call rfl en96 (impl_leads_c _ _ _ _ _ _ _ (by assumption) _) ?_  -- k1 impl.leads
    rintro v4 w4 ⟨rfl, g4⟩
    replace hA := hA.grow g4
    replace hE := hE.grow g4
    replace G := G.grow g4
    replace GL3 := GL3.grow g4
    replace B1 := B1.grow g4
    replace B2 := B2.grow g4
    have zg4 := g4.size
    refine S_val (Y_not rfl) ?_
    refine S_nl rfl rfl ?_
    refine th_n (hK11 _ _ ?_)
    clear hK11 K11
    refine S_if rfl (fun hb3 => ?_) (fun hb3 => ?_)  -- c3
    · -- c3T
     first | with_reducible (replace hb3 := nb_nt hb3) | with_reducible (replace hb3 := nb_tt hb3) | with_reducible (replace hb3 := nb_bt hb3) | skip
     refine wp_seq_k fun K12 hK12 => ?_
     refine Sb 45 rfl ?_  -- 7
     refine S_val (Y_assign rfl) ?_
     refine S_nl rfl rfl ?_
     refine th_n (hK12 _ _ ?_)
     clear hK12 K12
     refine wp_ret ?_
     refine ib_r ?_
     refine th_r ?_
     try clear GL3
     refine th_r ?_
     refine ib_r ?_
     refine th_r ?_
     clear hK9 K9 hK5 K5
     refine ret_r1 rfl rfl ?_  -- r3
     exact ⟨by unfold okB; first | (rw [decide_eq_decide.2 (okP_n (by assumption))]; first | exact bI (by omega) | exact bF (by omega)) | (rw [decide_eq_decide.2 (okP_u (by assumption))]; first | exact bI (by simp only [hall, true_and]; omega) | exact bF (by omega) | exact bF (fun h => all_false (by omega) hb3 h.1)), G⟩
    · -- c3F
     first | with_reducible (replace hb3 := nb_nf hb3) | with_reducible (replace hb3 := nb_tf hb3) | with_reducible (replace hb3 := nb_bf hb3) | skip
     refine wp_skip ?_
     refine ib_n ?_
     refine th_n (hK9 _ _ ?_)
     clear hK9 K9
     refine Sb 45 rfl ?_  -- 8
     refine S_val (Y_inc rfl rfl (by omega)) ?_
     refine S_val (Y_move rfl) ?_
     refine S_nl rfl rfl ?_
     refine th_n ?_
     go_roundw  -- e1 of L1
     case rel =>
      refine ⟨?_, GL3⟩
      exact ⟨k + 1, rfl, by omega, all_take_succ (by omega) hs hb3⟩
     case measure =>
      exact dec_nat (by omega)
   · -- c2F
    replace hb2 := nb_tf hb2
    have hall := all_of_take (by omega) hs
    refine wp_exit ?_
    refine th_x ?_
    try clear GL3
    refine th_x ?_
    refine ib_e ?_
    refine th_n (hK5 _ _ ?_)
    clear hK8 K8 hK5 K5
    refine wp_seq_k fun K13 hK13 => ?_
    refine Sb 45 rfl ?_  -- 9
    refine S_val (Y_field Try.underlying63 rfl fz63_1 (by decide) rfl) ?_
    refine S_val (Y_load Try.underlying3 rfl rfl (B2.at (by rfl))) ?_  -- l7
    refine S_val (Y_geq rfl rfl) ?_
    refine S_val (Y_move rfl) ?_
    refine S_g 34 rfl (fun hb3 => ?_) (fun hb3 => ?_)  -- g2
    · -- g2T
     replace hb3 := nb_tt hb3
     refine S_on rfl rfl ?_
     refine S_val (Y_field Try.underlying63 rfl fz63_1 (by decide) rfl) ?_
     refine S_on rfl rfl ?_
     refine S_val (Y_load Try.underlying3 rfl rfl (B2.at (by rfl))) ?_  -- l8
     refine S_on rfl rfl ?_
     refine S_val (Y_leq rfl rfl) ?_
     refine S_val (Y_pickT rfl rfl) ?_
     refine S_val (Y_move rfl) ?_
     refine S_g 39 rfl (fun hb4 => ?_) (fun hb4 => ?_)  -- g3
     · -- g3T
      first | with_reducible (replace hb4 := nb_nt hb4) | with_reducible (replace hb4 := nb_tt hb4) | with_reducible (replace hb4 := nb_bt hb4) | skip
      refine S_on rfl rfl ?_
      refine S_val (Y_field Try.underlying63 rfl fz63_2 (by decide) rfl) ?_
      refine S_on rfl rfl ?_
      refine S_val (Y_load Try.underlying23 rfl rfl (B2.at (by rfl))) ?_  -- l9
      refine S_on rfl rfl ?_
      refine S_val (Y_len Try.underlying23 rfl) ?_
      refine S_on rfl rfl ?_
      refine S_val (Y_leq rfl rfl) ?_
      refine S_val (Y_pickT rfl rfl) ?_
      refine S_val (Y_assign rfl) ?_
      refine S_nl rfl rfl ?_
      refine th_n (hK13 _ _ ?_)
      clear hK13 K13
      refine wp_ret ?_
      refine ret_r1 rfl rfl ?_  -- r4
      exact ⟨by unfold okB; first | (rw [decide_eq_decide.2 (okP_n (by assumption))]; first | exact bI (by omega) | exact bF (by omega)) | (rw [decide_eq_decide.2 (okP_u (by assumption))]; first | exact bI (by simp only [hall, true_and]; omega) | exact bF (by omega) | exact bF (fun h => all_false (by omega) hb3 h.1)), G⟩
     · -- g3F
      first | with_reducible (replace hb4 := nb_nf hb4) | with_reducible (replace hb4 := nb_tf hb4) | with_reducible (replace hb4 := nb_bf hb4) | skip
      refine S_off rfl rfl ?_
      refine S_off rfl rfl ?_
      refine S_off rfl rfl ?_
      refine S_off rfl rfl ?_
      refine S_val (Y_pickF rfl rfl) ?_
      refine S_val (Y_assign rfl) ?_
      refine S_nl rfl rfl ?_
      refine th_n (hK13 _ _ ?_)
      clear hK13 K13
      refine wp_ret ?_
      refine ret_r1 rfl rfl ?_  -- r5
      exact ⟨by unfold okB; first | (rw [decide_eq_decide.2 (okP_n (by assumption))]; first | exact bI (by omega) | exact bF (by omega)) | (rw [decide_eq_decide.2 (okP_u (by assumption))]; first | exact bI (by simp only [hall, true_and]; omega) | exact bF (by omega) | exact bF (fun h => all_false (by omega) hb3 h.1)), G⟩
    · -- g2F
     replace hb3 := nb_tf hb3
     refine S_off rfl rfl ?_
     refine S_off rfl rfl ?_
     refine S_off rfl rfl ?_
     refine S_val (Y_pickF rfl rfl) ?_
     refine S_val (Y_move rfl) ?_
     refine S_off rfl rfl ?_
     refine S_off rfl rfl ?_
     refine S_off rfl rfl ?_
     refine S_off rfl rfl ?_
     refine S_val (Y_pickF rfl rfl) ?_
     refine S_val (Y_assign rfl) ?_
     refine S_nl rfl rfl ?_
     refine th_n (hK13 _ _ ?_)
     clear hK13 K13
     refine wp_ret ?_
     refine ret_r1 rfl rfl ?_  -- r6
     exact ⟨by unfold okB; first | (rw [decide_eq_decide.2 (okP_n (by assumption))]; first | exact bI (by omega) | exact bF (by omega)) | (rw [decide_eq_decide.2 (okP_u (by assumption))]; first | exact bI (by simp only [hall, true_and]; omega) | exact bF (by omega) | exact bF (fun h => all_false (by omega) hb3 h.1)), G⟩
set_option maxHeartbeats 400000 in
set_option maxRecDepth 20000 in
theorem impl_HeapValid_c (Pr : Nat → Prop) (A B : Option Addr) (h : LH) (c d : Nat) (w : World) (hA : RC Pr w A h.cells) (hB : R1 Pr w B (ints h.roots)) (hz : hsize h ≤ 1048576) :
    Calls Try.prog 41 #[.agg #[.slice A h.cells.length c, .slice B h.roots.length d]] w (Ret fun v w' => v = .bool (validB h) ∧ Grow w w') := by
 have hz1 := hsize_cells h
 have hz2 := hsize_roots h
 have hz3 : ∀ k (hk : k < h.cells.length), h.cells[k].refs.length ≤ hsize h := fun k hk => hsize_refs h hk
 refine enter Try.func41 rfl Try.ntmps41 (L := [_,_,_,_,_,_,_,_,_,_,_,_,_,_,_,_,_,_,_,_,_,_,_,_,_,_,_,_,_,_,_,_,_,_,_,_,_,_,_,_,_]) rfl ?_
 have G := Mod.refl No w
 have hA0 := hA
 have hB0 := hB
 refine wp_seq_k fun K1 hK1 => ?_
 refine Sb 41 rfl ?_  -- 0
 refine S_box (cs := [_, _]) rfl rfl ?_
 intro b1 w1 fb1 g1 B1
 have lb1 := B1.lt
 replace hA := hA.grow g1
 replace hB := hB.grow g1
 replace G := G.grow g1
 have zg1 := g1.size
 refine S_val (Y_assign rfl) ?_
 refine S_nl rfl rfl ?_
 refine th_n (hK1 _ _ ?_)
 clear hK1 K1
 refine wp_seq_k fun K2 hK2 => ?_
 refine wp_seq_k fun K3 hK3 => ?_
 refine Sb 41 rfl ?_  -- 1
 refine S_val (Y_field Try.underlying32 rfl fz32_0 (by decide) rfl) ?_
 refine S_val (Y_load Try.underlying30 rfl rfl (B1.at (by rfl))) ?_  -- l1
 refine S_val (Y_len Try.underlying30 rfl) ?_
 refine S_val (Y_gtr rfl rfl) ?_
 refine S_val (Y_move rfl) ?_
 refine S_g 11 rfl (fun hb1 => ?_) (fun hb1 => ?_)  -- g1
 · -- g1T
  replace hb1 := nb_tt hb1
  refine S_off rfl rfl ?_
  refine S_off rfl rfl ?_
  refine S_off rfl rfl ?_
  refine S_off rfl rfl ?_
  refine S_val (Y_pickT rfl rfl) ?_
  refine S_nl rfl rfl ?_
  refine th_n (hK3 _ _ ?_)
  clear hK3 K3
  refine S_ifT rfl ?_
  refine wp_seq_k fun K4 hK4 => ?_
  refine Sb 41 rfl ?_  -- 2
  refine S_val (Y_assign rfl) ?_
  refine S_nl rfl rfl ?_
  refine th_n (hK4 _ _ ?_)
  clear hK4 K4
  refine wp_ret ?_
  refine th_r ?_
  clear hK2 K2
  refine ret_r1 rfl rfl ?_  -- r1
  exact ⟨bF (by omega), G⟩
 · -- g1F
  replace hb1 := nb_tf hb1
  refine S_on rfl rfl ?_
  refine S_val (Y_field Try.underlying32 rfl fz32_1 (by decide) rfl) ?_
  refine S_on rfl rfl ?_
  refine S_val (Y_load Try.underlying23 rfl rfl (B1.at (by rfl))) ?_  -- l2
  refine S_on rfl rfl ?_
  refine S_val (Y_len Try.underlying23 rfl) ?_
  refine S_on rfl rfl ?_
  refine S_val (Y_neq rfl rfl) ?_
  refine S_val (Y_pickF rfl rfl) ?_
  refine S_nl rfl rfl ?_
  refine th_n (hK3 _ _ ?_)
  clear hK3 K3
  refine S_if rfl (fun hb2 => ?_) (fun hb2 => ?_)  -- c1
  · -- c1T
   first | with_reducible (replace hb2 := nb_nt hb2) | with_reducible (replace hb2 := nb_tt hb2) | with_reducible (replace hb2 := nb_bt hb2) | skip
   refine wp_seq_k fun K5 hK5 => ?_
   refine Sb 41 rfl ?_  -- 2
   refine S_val (Y_assign rfl) ?_
   refine S_nl rfl rfl ?_
   refine th_n (hK5 _ _ ?_)
   clear hK5 K5
   refine wp_ret ?_
   refine th_r ?_
   clear hK2 K2
   refine ret_r1 rfl rfl ?_  -- r2
   exact ⟨bF (by omega), G⟩
  · -- c1F
   first | with_reducible (replace hb2 := nb_nf hb2) | with_reducible (replace hb2 := nb_tf hb2) | with_reducible (replace hb2 := nb_bf hb2) | skip
   refine wp_skip ?_
   refine th_n (hK2 _ _ ?_)
   clear hK2 K2
   refine wp_seq_k fun K6 hK6 => ?_
   refine wp_seq_k fun K7 hK7 => ?_
   refine Sb 41 rfl ?_  -- 3
   refine S_val (Y_field Try.underlying32 rfl fz32_0 (by decide) rfl) ?_
   refine S_val (Y_load Try.underlying30 rfl rfl (B1.at (by rfl))) ?_  -- l3
   refine S_val (Y_len Try.underlying30 rfl) ?_
   refine S_val (Y_move rfl) ?_
   refine S_nl rfl rfl ?_
   refine th_n (hK7 _ _ ?_)
   clear hK7 K7
   refine wp_block ?_
   go_loopw [20] (fun u20 wr => (∃ k : Nat, u20 = .int .i64 k ∧ k ≤ h.cells.length ∧ (h.cells.take k).all (okB h.cells) = true) ∧ Mod No w1 wr) (fun u20 wr => h.cells.length - (intOf u20).toNat)  -- L1
   case atStart =>
    refine ⟨?_, Mod.refl _ _⟩
    exact ⟨0, rfl, by omega, by simp⟩
   case round =>
    obtain ⟨w2, rfl⟩ : ∃ x : World, x = wr := ⟨_, rfl⟩
    obtain ⟨hrel, g2⟩ := hrel
    replace hA := hA.grow g2
    replace hB := hB.grow g2
    replace G := G.grow g2
    replace B1 := B1.grow g2
    have zg2 := g2.size
    obtain ⟨k, rfl, hk, hs⟩ := hrel
    have GL2 := g2
    refine wp_seq_k fun K8 hK8 => ?_
    refine Sb 41 rfl ?_  -- 4
    refine S_val (Y_lss rfl rfl) ?_
    refine S_nl rfl rfl ?_
    refine th_n (hK8 _ _ ?_)
    clear hK8 K8
    refine wp_seq_k fun K9 hK9 => ?_
    refine S_if rfl (fun hb3 => ?_) (fun hb3 => ?_)  -- c2
    · -- c2T
     replace hb3 := nb_tt hb3
     have hk2 : k < h.cells.length := by omega
     obtain ⟨g2, o2, E2, d2, rfl, hp2, cc20, hE20⟩ := hA0.cell hk2
     have hz4 := hz3 k hk2
     have cc2 := cc20.grow G
     have hE2 := hE20.grow G
     refine wp_skip ?_
     refine th_n (hK9 _ _ ?_)
     clear hK9 K9
     refine wp_seq_k fun K10 hK10 => ?_
     refine wp_block ?_
     refine wp_seq_k fun K11 hK11 => ?_
     refine Sb 41 rfl ?_  -- 5
     refine S_val (Y_index Try.underlying30 sz63 rfl rfl (by first | assumption | omega)) ?_
     refine S_val (Y_loadS Try.underlying63 rfl sz63 rfl (by first | assumption | exact B1.row (by rfl))) ?_  -- l4
     refine S_alloc (cs := [_, _, _]) zr63 rfl ?_
     intro b3 w3 fb3 g3 B3
     have lb3 := B3.lt
     replace hA := hA.grow g3
     replace hB := hB.grow g3
     replace cc2 := cc2.grow g3
     replace hE2 := hE2.grow g3
     replace G := G.grow g3
     replace GL2 := GL2.grow g3
     replace B1 := B1.grow g3
     have zg3 := g3.size
     refine S_stM (pre := []) (old := [_, _, _]) (post := []) (vs := [_, _, _]) sz63 rfl rfl rfl (by first | rfl | assumption) B3 rfl rfl ?_
     intro w4 m4 X4
     replace B3 := Blk.eq (ys := [_, _, _]) X4 rfl
     clear X4
     replace G := G.abv m4
     first | replace GL2 := GL2.abv m4 | clear GL2
     replace hA := hA0.grow G
     replace hB := hB0.grow G
     replace cc2 := cc20.grow G
     replace hE2 := hE20.grow G
     replace B1 := B1.md m4
     have zm4 := m4.size
     refine S_nl rfl rfl ?_
     refine th_n (hK11 _ _ ?_)
     clear hK11 K11
     refine wp_seq_k fun K12 hK12 => ?_
     refine Sb 41 rfl ?_  -- 6
     refine S_val (Y_loadS Try.underlying32 rfl sz32 rfl (B1.row (by rfl))) ?_  -- l5
     refine S_val (Y_loadS Try.underlying63 rfl sz63 rfl (B3.row (by rfl))) ?_  -- l6
     refine S_call rfl en95 (impl_cellValid_c _ _ _ _ _ _ _ (by assumption) _ _ _ (by assumption) (by omega)) ?_  -- k1 impl.cellValid
     rintro v5 w5 ⟨rfl, g5⟩
     replace hA := hA.grow g5
     replace hB := hB.grow g5
     replace cc2 := cc2.grow g5
     replace hE2 := hE2.grow g5
     replace G := G.grow g5
     replace GL2 := GL2.grow g5
     replace B1 := B1.grow g5
     replace B3 := B3.grow g5
     have zg5 := g5.size
     refine S_val (Y_not rfl) ?_
     refine S_nl rfl rfl ?_
     refine th_n (hK12 _ _ ?_)
     clear hK12 K12
     refine S_if rfl (fun hb4 => ?_) (fun hb4 => ?_)  -- c3
     · -- c3T
      first | with_reducible (replace hb4 := nb_nt hb4) | with_reducible (replace hb4 := nb_tt hb4) | with_reducible (replace hb4 := nb_bt hb4) | skip
      refine wp_seq_k fun K13 hK13 => ?_
      refine Sb 41 rfl ?_  -- 7
      refine S_val (Y_assign rfl) ?_
      refine S_nl rfl rfl ?_
      refine th_n (hK13 _ _ ?_)
      clear hK13 K13
      refine wp_ret ?_
      refine ib_r ?_
      refine th_r ?_
      try clear GL2
      refine th_r ?_
      refine ib_r ?_
      refine th_r ?_
      clear hK10 K10 hK6 K6
      refine ret_r1 rfl rfl ?_  -- r3
      exact ⟨bF (fun e => all_false (by omega) hb4 e.2.2.1), G⟩
     · -- c3F
      first | with_reducible (replace hb4 := nb_nf hb4) | with_reducible (replace hb4 := nb_tf hb4) | with_reducible (replace hb4 := nb_bf hb4) | skip
      refine wp_skip ?_
      refine ib_n ?_
      refine th_n (hK10 _ _ ?_)
      clear hK10 K10
      refine Sb 41 rfl ?_  -- 8
      refine S_val (Y_inc rfl rfl (by omega)) ?_
      refine S_val (Y_move rfl) ?_
      refine S_nl rfl rfl ?_
      refine th_n ?_
      go_roundw  -- e1 of L1
      case rel =>
       refine ⟨?_, GL2⟩
       exact ⟨k + 1, rfl, by omega, all_take_succ (by omega) hs hb4⟩
      case measure =>
       exact dec_nat (by omega)
    · -- c2F
     replace hb3 := nb_tf hb3
     have hall := all_of_take (by omega) hs
     refine wp_exit ?_
     refine th_x ?_
     try clear GL2
     refine th_x ?_
     refine ib_e ?_
     refine th_n (hK6 _ _ ?_)
     clear hK9 K9 hK6 K6
     refine wp_seq_k fun K14 hK14 => ?_
     refine wp_seq_k fun K15 hK15 => ?_
     refine Sb 41 rfl ?_  -- 9
     refine S_val (Y_field Try.underlying32 rfl fz32_1 (by decide) rfl) ?_
     refine S_val (Y_load Try.underlying23 rfl rfl (B1.at (by rfl))) ?_  -- l7
     refine S_val (Y_len Try.underlying23 rfl) ?_
     refine S_val (Y_move rfl) ?_
     refine S_nl rfl rfl ?_
     refine th_n (hK15 _ _ ?_)
     clear hK15 K15
     refine wp_block ?_
     go_loopw [32] (fun u32 wr => (∃ k : Nat, u32 = .int .i64 k ∧ k ≤ h.roots.length ∧ (h.roots.take k).all (leadsB h.cells) = true) ∧ Mod No w2 wr) (fun u32 wr => h.roots.length - (intOf u32).toNat)  -- L2
     case atStart =>
      refine ⟨?_, Mod.refl _ _⟩
      exact ⟨0, rfl, by omega, by simp⟩
     case round =>
      obtain ⟨w6, rfl⟩ : ∃ x : World, x = wr := ⟨_, rfl⟩
      obtain ⟨hrel, g6⟩ := hrel
      replace hA := hA.grow g6
      replace hB := hB.grow g6
      replace G := G.grow g6
      replace B1 := B1.grow g6
      have zg6 := g6.size
      obtain ⟨k2, rfl, hk2, hs2⟩ := hrel
      have GL6 := g6
      refine wp_seq_k fun K16 hK16 => ?_
      refine Sb 41 rfl ?_  -- 10
      refine S_val (Y_lss rfl rfl) ?_
      refine S_nl rfl rfl ?_
      refine th_n (hK16 _ _ ?_)
      clear hK16 K16
      refine wp_seq_k fun K17 hK17 => ?_
      refine S_if rfl (fun hb4 => ?_) (fun hb4 => ?_)  -- c4
      · -- c4T
       replace hb4 := nb_tt hb4
       obtain ⟨g3, o3, rfl, hp3, hc3⟩ := hB.int (k := k2) (by omega)
       refine wp_skip ?_
       refine th_n (hK17 _ _ ?_)
       clear hK17 K17
       refine wp_seq_k fun K18 hK18 => ?_
       refine wp_block ?_
       refine wp_seq_k fun K19 hK19 => ?_
       refine Sb 41 rfl ?_  -- 11
       refine S_val (Y_index Try.underlying23 sz3 rfl rfl (by first | assumption | omega)) ?_
       refine S_val (Y_load Try.underlying3 rfl rfl (by first | assumption | exact B1.at (by rfl))) ?_  -- l8
       refine S_val (Y_assign rfl) ?_
       refine S_nl rfl rfl ?_
       refine th_n (hK19 _ _ ?_)
       clear hK19 K19
       refine wp_seq_k fun K20 hK20 => ?_
       refine Sb 41 rfl ?_  -- 12
       refine S_val (Y_loadS Try.underlying32 rfl sz32 rfl (B1.row (by rfl))) ?_  -- l9
       refine S_val (Y_move rfl) ?_
       refine S_call rfl en96 (impl_leads_c _ _ _ _ _ _ _ (by assumption) _) ?_  -- k2 impl.leads
       rintro v7 w7 ⟨rfl, g7⟩
       replace hA := hA.grow g7
       replace hB := hB.grow g7
       replace G := G.grow g7
       replace GL6 := GL6.grow g7
       replace B1 := B1.grow g7
       have zg7 := g7.size
       refine S_val (Y_not rfl) ?_
       refine S_nl rfl rfl ?_
       refine th_n (hK20 _ _ ?_)
       clear hK20 K20
       refine S_if rfl (fun hb5 => ?_) (fun hb5 => ?_)  -- c5
       · -- c5T
        first | with_reducible (replace hb5 := nb_nt hb5) | with_reducible (replace hb5 := nb_tt hb5) | with_reducible (replace hb5 := nb_bt hb5) | skip
        refine wp_seq_k fun K21 hK21 => ?_
        refine Sb 41 rfl ?_  -- 13
        refine S_val (Y_assign rfl) ?_
        refine S_nl rfl rfl ?_
        refine th_n (hK21 _ _ ?_)
        clear hK21 K21
        refine wp_ret ?_
        refine ib_r ?_
        refine th_r ?_
        try clear GL6
        refine th_r ?_
        refine ib_r ?_
        refine th_r ?_
        clear hK18 K18 hK14 K14
        refine ret_r1 rfl rfl ?_  -- r4
        exact ⟨bF (fun e => all_false (by omega) hb5 e.2.2.2), G⟩
       · -- c5F
        first | with_reducible (replace hb5 := nb_nf hb5) | with_reducible (replace hb5 := nb_tf hb5) | with_reducible (replace hb5 := nb_bf hb5) | skip
        refine wp_skip ?_
        refine ib_n ?_
        refine th_n (hK18 _ _ ?_)
        clear hK18 K18
        refine Sb 41 rfl ?_  -- 14
        refine S_val (Y_inc rfl rfl (by omega)) ?_
        refine S_val (Y_move rfl) ?_
        refine S_nl rfl rfl ?_
        refine th_n ?_
        go_roundw  -- e2 of L2
        case rel =>
         refine ⟨?_, GL6⟩
         exact ⟨k2 + 1, rfl, by omega, all_take_succ (by omega) hs2 hb5⟩
        case measure =>
         exact dec_nat (by omega)
      · -- c4F
       replace hb4 := nb_tf hb4
       have hall2 := all_of_take (by omega) hs2
       refine wp_exit ?_
       refine th_x ?_
       try clear GL6
       refine th_x ?_
       refine ib_e ?_
       refine th_n (hK14 _ _ ?_)
       clear hK17 K17 hK14 K14
       refine wp_seq_k fun K22 hK22 => ?_
       refine Sb 41 rfl ?_  -- 15
       refine S_val (Y_assign rfl) ?_
       refine S_nl rfl rfl ?_
       refine th_n (hK22 _ _ ?_)
       clear hK22 K22
       refine wp_ret ?_
       refine ret_r1 rfl rfl ?_  -- r5
       exact ⟨bT ⟨by omega, by omega, hall, hall2⟩, G⟩
set_option maxHeartbeats 400000 in
set_option maxRecDepth 20000 in
theorem spec_l7Refs_c (Pr Pr2 : Nat → Prop) (A B : Option Addr) (h : LH) (c d : Nat) (w : World) (hA : RC Pr w A h.cells) (E : Option Addr) (xs : List Int) (e : Nat) (hE : R1 Pr2 w E (ints xs)) (hx : xs.length ≤ 1048576) (hn : h.cells.length ≤ 1048576) :
    Calls Try.prog 100 #[.agg #[.slice A h.cells.length c, .slice B h.roots.length d], .slice E xs.length e] w (Ret fun v w' => v = .bool (xs.all (leadsB h.cells)) ∧ Grow w w') := by
 refine enter Try.func100 rfl Try.ntmps100 (L := [_,_,_,_,_,_,_,_,_,_,_,_,_,_,_,_,_,_,_,_,_,_,_,_,_,_,_,_,_,_,_,_,_,_,_,_,_,_,_,_,_]) rfl ?_
 have G := Mod.refl No w
 have hA0 := hA
 have hE0 := hE
 refine wp_seq_k fun K1 hK1 => ?_
 refine Sb 41 rfl ?_  -- 0
 refine S_box (cs := [_, _]) rfl rfl ?_
 intro b1 w1 fb1 g1 B1
 have lb1 := B1.lt
 replace hA := hA.grow g1
 replace hE := hE.grow g1
 replace G := G.grow g1
 have zg1 := g1.size
 refine S_val (Y_assign rfl) ?_
 refine S_nl rfl rfl ?_
 refine th_n (hK1 _ _ ?_)
 clear hK1 K1
 refine wp_seq_k fun K2 hK2 => ?_
 refine wp_seq_k fun K3 hK3 => ?_
 refine Sb 41 rfl ?_  -- 1
 refine S_val (Y_assign rfl) ?_
 refine S_nl rfl rfl ?_
 refine th_n (hK3 _ _ ?_)
 clear hK3 K3
 refine wp_block ?_
 go_loopw [5] (fun u5 wr => (∃ k : Nat, u5 = .int .i64 k ∧ k ≤ xs.length ∧ (xs.take k).all (leadsB h.cells) = true) ∧ Mod No w1 wr) (fun u5 wr => xs.length - (intOf u5).toNat)  -- L1
 case atStart =>
  refine ⟨?_, Mod.refl _ _⟩
  exact ⟨0, rfl, by omega, by simp⟩
 case round =>
  obtain ⟨w2, rfl⟩ : ∃ x : World, x = wr := ⟨_, rfl⟩
  obtain ⟨hrel, g2⟩ := hrel
  replace hA := hA.grow g2
  replace hE := hE.grow g2
  replace G := G.grow g2
  replace B1 := B1.grow g2
  have zg2 := g2.size
  obtain ⟨k, rfl, hk, hs⟩ := hrel
  have GL2 := g2
  refine wp_seq_k fun K4 hK4 => ?_
  refine wp_seq_k fun K5 hK5 => ?_
  refine Sb 41 rfl ?_  -- 2
  refine S_val (Y_move rfl) ?_
  refine S_val (Y_move rfl) ?_
  refine S_val (Y_len Try.underlying23 rfl) ?_
  refine S_val (Y_lss rfl rfl) ?_
  refine S_nl rfl rfl ?_
  refine th_n (hK5 _ _ ?_)
  clear hK5 K5
  refine S_if rfl (fun hb1 => ?_) (fun hb1 => ?_)  -- c1
  · -- c1T
   replace hb1 := nb_tt hb1
   refine wp_skip ?_
   refine th_n (hK4 _ _ ?_)
   clear hK4 K4
   refine wp_seq_k fun K6 hK6 => ?_
   refine wp_block ?_
   refine wp_seq_k fun K7 hK7 => ?_
   refine D_start 29 41 (fun w => Mod (No) w) follows rfl rfl ?_  -- d1 r4
   intro w3 g3
   replace hA := hA.grow g3
   replace hE := hE.grow g3
   replace G := G.grow g3
   replace GL2 := GL2.grow g3
   replace B1 := B1.grow g3
   have zg3 := g3.size
   have GS3 := Mod.refl (No) w3
   obtain ⟨g1, o1, rfl, hp1, hc1⟩ := hE.int (k := k) (by omega)
   have B1d3 := B1
   refine Dq (i := 0) rfl GS3 (fun _ _ => Y_move rfl) ?_
   refine Dq (i := 1) rfl GS3 (fun _ _ => Y_move rfl) ?_
   refine Dq (i := 2) rfl GS3 (fun _ _ => Y_index Try.underlying23 sz3 rfl rfl (by first | assumption | omega)) ?_
   refine Dq (i := 3) rfl GS3 (fun _ hs => Y_load Try.underlying3 rfl rfl (by first | exact hs.cell0 (by assumption) | exact hs.cell0 (B1.at (by rfl)))) ?_
   refine Dq (i := 4) rfl GS3 (fun _ _ => Y_neq rfl rfl) ?_
   refine Dq (i := 5) rfl GS3 (fun _ _ => Y_move rfl) ?_
   refine D_g 17 rfl (fun hb2 => ?_) (fun hb2 => ?_)  -- g1
   · -- g1T
    replace hb2 := nb_nt hb2
    refine Dqon (i := 6) rfl rfl rfl GS3 (fun _ _ => Y_move rfl) ?_
    refine Dqon (i := 7) rfl rfl rfl GS3 (fun _ _ => Y_move rfl) ?_
    refine Dqon (i := 8) rfl rfl rfl GS3 (fun _ _ => Y_index Try.underlying23 sz3 rfl rfl (by first | assumption | omega)) ?_
    refine Dqon (i := 9) rfl rfl rfl GS3 (fun _ hs => Y_load Try.underlying3 rfl rfl (by first | exact hs.cell0 (by assumption) | exact hs.cell0 (B1.at (by rfl)))) ?_
    refine Dqon (i := 10) rfl rfl rfl GS3 (fun _ _ => Y_field Try.underlying32 rfl fz32_0 (by decide) rfl) ?_
    refine Dqon (i := 11) rfl rfl rfl GS3 (fun _ hs => Y_load Try.underlying30 rfl rfl (hs.cell0 (B1.at (by rfl)))) ?_
    refine Dqon (i := 12) rfl rfl rfl GS3 (fun _ _ => Y_len Try.underlying30 rfl) ?_
    refine Dqon (i := 13) rfl rfl rfl GS3 (fun _ _ => Y_sub rfl rfl rfl (by omega) (by omega)) ?_
    refine D_1 (i := 14) (by kernel_rfl) ?_
    refine E_calln rfl rfl rfl rfl en52 (spec_l1In_c _ _ _ _) ?_  -- k1 spec.l1In
    rintro v w' ⟨rfl, rfl⟩
    refine ⟨GS3, ?_⟩
    refine Dqon (i := 15) rfl rfl rfl GS3 (fun _ _ => Y_not rfl) ?_
    refine Dqon (i := 16) rfl rfl rfl GS3 (fun _ _ => Y_move rfl) ?_
    refine D_g 28 rfl (fun hb3 => ?_) (fun hb3 => ?_)  -- g2
    · -- g2T
     first | with_reducible (replace hb3 := nb_nt hb3) | with_reducible (replace hb3 := nb_tt hb3) | with_reducible (replace hb3 := nb_bt hb3) | skip
     refine Dqoff (i := 17) rfl rfl rfl GS3 ?_
     refine Dqoff (i := 18) rfl rfl rfl GS3 ?_
     refine Dqoff (i := 19) rfl rfl rfl GS3 ?_
     refine Dqoff (i := 20) rfl rfl rfl GS3 ?_
     refine Dqoff (i := 21) rfl rfl rfl GS3 ?_
     refine Dqoff (i := 22) rfl rfl rfl GS3 ?_
     refine Dqoff (i := 23) rfl rfl rfl GS3 ?_
     refine Dqoff (i := 24) rfl rfl rfl GS3 ?_
     refine Dqoff (i := 25) rfl rfl rfl GS3 ?_
     refine Dqoff (i := 26) rfl rfl rfl GS3 ?_
     refine Dqon (i := 27) rfl rfl rfl GS3 (fun _ _ => Y_pickT rfl rfl) ?_
     refine Dq (i := 28) rfl GS3 (fun _ _ => Y_pickT rfl rfl) ?_
     refine D_en (by kernel_rfl) rfl rfl ?_
     refine th_n (hK7 _ _ ?_)
     clear hK7 K7
     refine S_ifT rfl ?_
     refine wp_seq_k fun K8 hK8 => ?_
     refine Sb 41 rfl ?_  -- 5
     refine S_val (Y_assign rfl) ?_
     refine S_nl rfl rfl ?_
     refine th_n (hK8 _ _ ?_)
     clear hK8 K8
     refine wp_ret ?_
     refine ib_r ?_
     refine th_r ?_
     try clear GL2
     refine th_r ?_
     refine ib_r ?_
     refine th_r ?_
     clear hK6 K6 hK2 K2
     refine ret_r1 rfl rfl ?_  -- r1
     exact ⟨bAF (all_false (k := k) (by omega) (leadsB_no hb2 (by omega))), G⟩
    · -- g2F
     first | with_reducible (replace hb3 := nb_nf hb3) | with_reducible (replace hb3 := nb_tf hb3) | with_reducible (replace hb3 := nb_bf hb3) | skip
     obtain ⟨n, hn2⟩ : ∃ n : Nat, xs[k] = (n : Int) := ⟨xs[k].toNat, by omega⟩
     rw [hn2] at hc1
     obtain ⟨g2, o2, E2, d2, rfl, hp2, cc2, _⟩ := hA.cell (k := n) (by omega)
     refine Dqon (i := 17) rfl rfl rfl GS3 (fun _ _ => Y_field Try.underlying32 rfl fz32_0 (by decide) rfl) ?_
     refine Dqon (i := 18) rfl rfl rfl GS3 (fun _ hs => Y_load Try.underlying30 rfl rfl (hs.cell0 (B1.at (by rfl)))) ?_
     refine Dqon (i := 19) rfl rfl rfl GS3 (fun _ _ => Y_move rfl) ?_
     refine Dqon (i := 20) rfl rfl rfl GS3 (fun _ _ => Y_move rfl) ?_
     refine Dqon (i := 21) rfl rfl rfl GS3 (fun _ _ => Y_index Try.underlying23 sz3 rfl rfl (by first | assumption | omega)) ?_
     refine Dqon (i := 22) rfl rfl rfl GS3 (fun _ hs => Y_load Try.underlying3 rfl rfl (by first | exact hs.cell0 (by assumption) | exact hs.cell0 (cc2.at (by rfl)) | exact hs.cell0 (B1.at (by rfl)))) ?_
     refine Dqon (i := 23) rfl rfl rfl GS3 (fun _ _ => Y_index Try.underlying30 sz63 rfl rfl (by first | assumption | omega)) ?_
     refine Dqon (i := 24) rfl rfl rfl GS3 (fun _ _ => Y_field Try.underlying63 rfl fz63_0 (by decide) rfl) ?_
     refine Dqon (i := 25) rfl rfl rfl GS3 (fun _ hs => Y_load Try.underlying4 rfl rfl (by first | exact hs.cell0 (by assumption) | exact hs.cell0 (cc2.at (by rfl)) | exact hs.cell0 (B1.at (by rfl)))) ?_
     refine Dqon (i := 26) rfl rfl rfl GS3 (fun _ _ => Y_not rfl) ?_
     refine Dqon (i := 27) rfl rfl rfl GS3 (fun _ _ => Y_pickF rfl rfl) ?_
     refine Dq (i := 28) rfl GS3 (fun _ _ => Y_pickT rfl rfl) ?_
     refine D_en (by kernel_rfl) rfl rfl ?_
     refine th_n (hK7 _ _ ?_)
     clear hK7 K7
     refine S_if rfl (fun hb4 => ?_) (fun hb4 => ?_)  -- c2
     · -- c2T
      first | with_reducible (replace hb4 := nb_nt hb4) | with_reducible (replace hb4 := nb_tt hb4) | with_reducible (replace hb4 := nb_bt hb4) | skip
      refine wp_seq_k fun K9 hK9 => ?_
      refine Sb 41 rfl ?_  -- 5
      refine S_val (Y_assign rfl) ?_
      refine S_nl rfl rfl ?_
      refine th_n (hK9 _ _ ?_)
      clear hK9 K9
      refine wp_ret ?_
      refine ib_r ?_
      refine th_r ?_
      try clear GL2
      refine th_r ?_
      refine ib_r ?_
      refine th_r ?_
      clear hK6 K6 hK2 K2
      refine ret_r1 rfl rfl ?_  -- r2
      exact ⟨bAF (all_false (k := k) (by omega) (by rw [hn2]; exact (leadsB_at (by omega)).trans hb4)), G⟩
     · -- c2F
      first | with_reducible (replace hb4 := nb_nf hb4) | with_reducible (replace hb4 := nb_tf hb4) | with_reducible (replace hb4 := nb_bf hb4) | skip
      refine wp_skip ?_
      refine ib_n ?_
      refine th_n (hK6 _ _ ?_)
      clear hK6 K6
      refine Sb 41 rfl ?_  -- 3
      refine S_val (Y_move rfl) ?_
      refine S_val (Y_inc rfl rfl (by omega)) ?_
      refine S_val (Y_assign rfl) ?_
      refine S_nl rfl rfl ?_
      refine th_n ?_
      go_roundw  -- e1 of L1
      case rel =>
       refine ⟨?_, GL2⟩
       exact ⟨k + 1, rfl, by omega, all_take_succ (by omega) hs (by rw [hn2]; exact (leadsB_at (by omega)).trans hb4)⟩
      case measure =>
       exact dec_nat (by omega)
   · -- g1F
    replace hb2 := nb_nf hb2
    refine Dqoff (i := 6) rfl rfl rfl GS3 ?_
    refine Dqoff (i := 7) rfl rfl rfl GS3 ?_
    refine Dqoff (i := 8) rfl rfl rfl GS3 ?_
    refine Dqoff (i := 9) rfl rfl rfl GS3 ?_
    refine Dqoff (i := 10) rfl rfl rfl GS3 ?_
    refine Dqoff (i := 11) rfl rfl rfl GS3 ?_
    refine Dqoff (i := 12) rfl rfl rfl GS3 ?_
    refine Dqoff (i := 13) rfl rfl rfl GS3 ?_
    refine Dqoff (i := 14) rfl rfl rfl GS3 ?_
    refine Dqoff (i := 15) rfl rfl rfl GS3 ?_
    refine Dqoff (i := 16) rfl rfl rfl GS3 ?_
    refine DqoffU (i := 17) rfl rfl rfl GS3 ?_
    refine DqoffU (i := 18) rfl rfl rfl GS3 ?_
    refine DqoffU (i := 19) rfl rfl rfl GS3 ?_
    refine DqoffU (i := 20) rfl rfl rfl GS3 ?_
    refine DqoffU (i := 21) rfl rfl rfl GS3 ?_
    refine DqoffU (i := 22) rfl rfl rfl GS3 ?_
    refine DqoffU (i := 23) rfl rfl rfl GS3 ?_
    refine DqoffU (i := 24) rfl rfl rfl GS3 ?_
    refine DqoffU (i := 25) rfl rfl rfl GS3 ?_
    refine DqoffU (i := 26) rfl rfl rfl GS3 ?_
    refine Dqoff (i := 27) rfl rfl rfl GS3 ?_
    refine Dq (i := 28) rfl GS3 (fun _ _ => Y_pickF rfl rfl) ?_
    refine D_en (by kernel_rfl) rfl rfl ?_
    refine th_n (hK7 _ _ ?_)
    clear hK7 K7
    refine S_ifF rfl ?_
    refine wp_skip ?_
    refine ib_n ?_
    refine th_n (hK6 _ _ ?_)
    clear hK6 K6
    refine Sb 41 rfl ?_  -- 3
    refine S_val (Y_move rfl) ?_
    refine S_val (Y_inc rfl rfl (by omega)) ?_
    refine S_val (Y_assign rfl) ?_
    refine S_nl rfl rfl ?_
    refine th_n ?_
    go_roundw  -- e2 of L1
    case rel =>
     refine ⟨?_, GL2⟩
     exact ⟨k + 1, rfl, by omega, all_take_succ (by omega) hs (by rw [hb2]; exact leadsB_m1 _)⟩
    case measure =>
     exact dec_nat (by omega)
  · -- c1F
   replace hb1 := nb_tf hb1
   refine wp_exit ?_
   refine th_x ?_
   try clear GL2
   refine th_x ?_
   refine ib_e ?_
   refine th_n (hK2 _ _ ?_)
   clear hK4 K4 hK2 K2
   refine wp_seq_k fun K10 hK10 => ?_
   refine Sb 41 rfl ?_  -- 6
   refine S_val (Y_assign rfl) ?_
   refine S_nl rfl rfl ?_
   refine th_n (hK10 _ _ ?_)
   clear hK10 K10
   refine wp_ret ?_
   refine ret_r1 rfl rfl ?_  -- r3
   exact ⟨bAT (all_of_take (by omega) hs), G⟩
set_option maxHeartbeats 400000 in
set_option maxRecDepth 20000 in
theorem spec_HeapValid_c (Pr : Nat → Prop) (A B : Option Addr) (h : LH) (c d : Nat) (w : World) (hA : RC Pr w A h.cells) (hB : R1 Pr w B (ints h.roots)) (hz : hsize h ≤ 1048576) :
    Calls Try.prog 49 #[.agg #[.slice A h.cells.length c, .slice B h.roots.length d]] w (Ret fun v w' => v = .bool (validB h) ∧ Grow w w') := by
 have hz1 := hsize_cells h
 have hz2 := hsize_roots h
 have hz3 : ∀ k (hk : k < h.cells.length), h.cells[k].refs.length ≤ hsize h := fun k hk => hsize_refs h hk
 refine enter Try.func49 rfl Try.ntmps49 (L := [_,_,_,_,_,_,_,_,_,_,_,_,_,_,_,_,_,_,_,_,_,_,_,_,_,_,_,_,_,_,_,_,_,_,_,_,_,_,_,_,_,_,_,_,_,_,_,_,_,_,_,_,_,_,_,_,_,_,_,_,_,_,_,_,_,_]) rfl ?_
 have G := Mod.refl No w
 have hA0 := hA
 have hB0 := hB
 refine wp_seq_k fun K1 hK1 => ?_
 refine Sb 66 rfl ?_  -- 0
 refine S_box (cs := [_, _]) rfl rfl ?_
 intro b1 w1 fb1 g1 B1
 have lb1 := B1.lt
 replace hA := hA.grow g1
 replace hB := hB.grow g1
 replace G := G.grow g1
 have zg1 := g1.size
 refine S_val (Y_assign rfl) ?_
 refine S_nl rfl rfl ?_
 refine th_n (hK1 _ _ ?_)
 clear hK1 K1
 refine wp_seq_k fun K2 hK2 => ?_
 refine wp_seq_k fun K3 hK3 => ?_
 refine Sb 66 rfl ?_  -- 1
 refine S_val (Y_assign rfl) ?_
 refine S_nl rfl rfl ?_
 refine th_n (hK3 _ _ ?_)
 clear hK3 K3
 refine wp_block ?_
 go_loopw [3] (fun u3 wr => (∃ k : Nat, u3 = .int .i64 k ∧ k ≤ h.cells.length ∧ (h.cells.take k).all (okB h.cells) = true) ∧ Mod No w1 wr) (fun u3 wr => h.cells.length - (intOf u3).toNat)  -- L1
 case atStart =>
  refine ⟨?_, Mod.refl _ _⟩
  exact ⟨0, rfl, by omega, by simp⟩
 case round =>
  obtain ⟨w2, rfl⟩ : ∃ x : World, x = wr := ⟨_, rfl⟩
  obtain ⟨hrel, g2⟩ := hrel
  replace hA := hA.grow g2
  replace hB := hB.grow g2
  replace G := G.grow g2
  replace B1 := B1.grow g2
  have zg2 := g2.size
  obtain ⟨k, rfl, hk, hs⟩ := hrel
  have GL2 := g2
  refine wp_seq_k fun K4 hK4 => ?_
  refine wp_seq_k fun K5 hK5 => ?_
  refine Sb 66 rfl ?_  -- 2
  refine S_val (Y_move rfl) ?_
  refine S_val (Y_field Try.underlying32 rfl fz32_0 (by decide) rfl) ?_
  refine S_val (Y_load Try.underlying30 rfl rfl (B1.at (by rfl))) ?_  -- l1
  refine S_val (Y_len Try.underlying30 rfl) ?_
  refine S_val (Y_lss rfl rfl) ?_
  refine S_nl rfl rfl ?_
  refine th_n (hK5 _ _ ?_)
  clear hK5 K5
  refine S_if rfl (fun hb1 => ?_) (fun hb1 => ?_)  -- c1
  · -- c1T
   replace hb1 := nb_tt hb1
   have hk2 : k < h.cells.length := by omega
   obtain ⟨g2, o2, E2, d2, rfl, hp2, cc20, hE20⟩ := hA0.cell hk2
   have hz4 := hz3 k hk2
   have cc2 := cc20.grow G
   have hE2 := hE20.grow G
   refine wp_skip ?_
   refine th_n (hK4 _ _ ?_)
   clear hK4 K4
   refine wp_seq_k fun K6 hK6 => ?_
   refine wp_block ?_
   refine wp_seq_k fun K7 hK7 => ?_
   refine Sb 66 rfl ?_  -- 4
   refine S_val (Y_field Try.underlying32 rfl fz32_0 (by decide) rfl) ?_
   refine S_val (Y_load Try.underlying30 rfl rfl (B1.at (by rfl))) ?_  -- l2
   refine S_val (Y_move rfl) ?_
   refine S_val (Y_index Try.underlying30 sz63 rfl rfl (by first | assumption | omega)) ?_
   refine S_val (Y_loadS Try.underlying63 rfl sz63 rfl (by first | assumption | exact B1.row (by rfl))) ?_  -- l3
   refine S_alloc (cs := [_, _, _]) zr63 rfl ?_
   intro b3 w3 fb3 g3 B3
   have lb3 := B3.lt
   replace hA := hA.grow g3
   replace hB := hB.grow g3
   replace cc2 := cc2.grow g3
   replace hE2 := hE2.grow g3
   replace G := G.grow g3
   replace GL2 := GL2.grow g3
   replace B1 := B1.grow g3
   have zg3 := g3.size
   refine S_stM (pre := []) (old := [_, _, _]) (post := []) (vs := [_, _, _]) sz63 rfl rfl rfl (by first | rfl | assumption) B3 rfl rfl ?_
   intro w4 m4 X4
   replace B3 := Blk.eq (ys := [_, _, _]) X4 rfl
   clear X4
   replace G := G.abv m4
   first | replace GL2 := GL2.abv m4 | clear GL2
   replace hA := hA0.grow G
   replace hB := hB0.grow G
   replace cc2 := cc20.grow G
   replace hE2 := hE20.grow G
   replace B1 := B1.md m4
   have zm4 := m4.size
   refine S_nl rfl rfl ?_
   refine th_n (hK7 _ _ ?_)
   clear hK7 K7
   refine wp_seq_k fun K8 hK8 => ?_
   refine Sb 66 rfl ?_  -- 5
   refine S_val (Y_field Try.underlying63 rfl fz63_0 (by decide) rfl) ?_
   refine S_val (Y_load Try.underlying4 rfl rfl (B3.at (by rfl))) ?_  -- l4
   refine S_val (Y_not rfl) ?_
   refine S_val (Y_move rfl) ?_
   refine S_g 20 rfl (fun hb2 => ?_) (fun hb2 => ?_)  -- g1
   · -- g1T
    first | with_reducible (replace hb2 := nb_nt hb2) | with_reducible (replace hb2 := nb_tt hb2) | with_reducible (replace hb2 := nb_bt hb2) | skip
    refine S_on rfl rfl ?_
    refine S_val (Y_field Try.underlying63 rfl fz63_1 (by decide) rfl) ?_
    refine S_on rfl rfl ?_
    refine S_val (Y_load Try.underlying3 rfl rfl (B3.at (by rfl))) ?_  -- l5
    refine S_on rfl rfl ?_
    refine S_val (Y_neq rfl rfl) ?_
    refine S_on rfl rfl ?_
    refine S_val (Y_move rfl) ?_
    refine S_g 24 rfl (fun hb3 => ?_) (fun hb3 => ?_)  -- g2
    · -- g2T
     replace hb3 := nb_nt hb3
     refine S_off rfl rfl ?_
     refine S_off rfl rfl ?_
     refine S_off rfl rfl ?_
     refine S_off rfl rfl ?_
     refine S_on rfl rfl ?_
     refine S_val (Y_pickT rfl rfl) ?_
     refine S_val (Y_pickT rfl rfl) ?_
     refine S_val (Y_move rfl) ?_
     refine S_off rfl rfl ?_
     refine S_off rfl rfl ?_
     refine S_off rfl rfl ?_
     refine S_off rfl rfl ?_
     refine S_val (Y_pickT rfl rfl) ?_
     refine S_val (Y_move rfl) ?_
     refine S_off rfl rfl ?_
     refine S_off rfl rfl ?_
     refine S_off rfl rfl ?_
     refine S_off rfl rfl ?_
     refine S_val (Y_pickT rfl rfl) ?_
     refine S_val (Y_move rfl) ?_
     refine S_off rfl rfl ?_
     refine S_off rfl rfl ?_
     refine S_off rfl rfl ?_
     refine S_off rfl rfl ?_
     refine S_off rfl rfl ?_
     refine S_val (Y_pickT rfl rfl) ?_
     refine S_nl rfl rfl ?_
     refine th_n (hK8 _ _ ?_)
     clear hK8 K8
     refine S_ifT rfl ?_
     refine wp_seq_k fun K9 hK9 => ?_
     refine Sb 66 rfl ?_  -- 6
     refine S_val (Y_assign rfl) ?_
     refine S_nl rfl rfl ?_
     refine th_n (hK9 _ _ ?_)
     clear hK9 K9
     refine wp_ret ?_
     refine ib_r ?_
     refine th_r ?_
     try clear GL2
     refine th_r ?_
     refine ib_r ?_
     refine th_r ?_
     clear hK6 K6 hK2 K2
     refine ret_r1 rfl rfl ?_  -- r1
     refine ⟨bF (fun e => all_false hk2 (okB_f ?_) e.2.2.1), G⟩
     first | (rw [okP_n (by assumption)]; omega) | (rw [okP_u (by assumption)]; omega)
    · -- g2F
     replace hb3 := nb_nf hb3
     refine S_on rfl rfl ?_
     refine S_val (Y_field Try.underlying63 rfl fz63_2 (by decide) rfl) ?_
     refine S_on rfl rfl ?_
     refine S_val (Y_load Try.underlying23 rfl rfl (B3.at (by rfl))) ?_  -- l6
     refine S_on rfl rfl ?_
     refine S_val (Y_len Try.underlying23 rfl) ?_
     refine S_on rfl rfl ?_
     refine S_val (Y_gtr rfl rfl) ?_
     refine S_on rfl rfl ?_
     refine S_val (Y_pickF rfl rfl) ?_
     refine S_val (Y_pickT rfl rfl) ?_
     refine S_val (Y_move rfl) ?_
     refine S_g 31 rfl (fun hb4 => ?_) (fun hb4 => ?_)  -- g3
     · -- g3T
      first | with_reducible (replace hb4 := nb_nt hb4) | with_reducible (replace hb4 := nb_tt hb4) | with_reducible (replace hb4 := nb_bt hb4) | skip
      refine S_off rfl rfl ?_
      refine S_off rfl rfl ?_
      refine S_off rfl rfl ?_
      refine S_off rfl rfl ?_
      refine S_val (Y_pickT rfl rfl) ?_
      refine S_val (Y_move rfl) ?_
      refine S_off rfl rfl ?_
      refine S_off rfl rfl ?_
      refine S_off rfl rfl ?_
      refine S_off rfl rfl ?_
      refine S_val (Y_pickT rfl rfl) ?_
      refine S_val (Y_move rfl) ?_
      refine S_off rfl rfl ?_
      refine S_off rfl rfl ?_
      refine S_off rfl rfl ?_
      refine S_off rfl rfl ?_
      refine S_off rfl rfl ?_
      refine S_val (Y_pickT rfl rfl) ?_
      refine S_nl rfl rfl ?_
      refine th_n (hK8 _ _ ?_)
      clear hK8 K8
      refine S_ifT rfl ?_
      refine wp_seq_k fun K10 hK10 => ?_
      refine Sb 66 rfl ?_  -- 6
      refine S_val (Y_assign rfl) ?_
      refine S_nl rfl rfl ?_
      refine th_n (hK10 _ _ ?_)
      clear hK10 K10
      refine wp_ret ?_
      refine ib_r ?_
      refine th_r ?_
      try clear GL2
      refine th_r ?_
      refine ib_r ?_
      refine th_r ?_
      clear hK6 K6 hK2 K2
      refine ret_r1 rfl rfl ?_  -- r2
      refine ⟨bF (fun e => all_false hk2 (okB_f ?_) e.2.2.1), G⟩
      first | (rw [okP_n (by assumption)]; omega) | (rw [okP_u (by assumption)]; omega)
     · -- g3F
      first | with_reducible (replace hb4 := nb_nf hb4) | with_reducible (replace hb4 := nb_tf hb4) | with_reducible (replace hb4 := nb_bf hb4) | skip
      refine S_on rfl rfl ?_
      refine S_val (Y_field Try.underlying63 rfl fz63_1 (by decide) rfl) ?_
      refine S_on rfl rfl ?_
      refine S_val (Y_load Try.underlying3 rfl rfl (B3.at (by rfl))) ?_  -- l7
      refine S_on rfl rfl ?_
      refine S_call rfl en52 (spec_l1In_c _ _ _ _) ?_  -- k1 spec.l1In
      rintro v w' ⟨rfl, rfl⟩
      refine S_on rfl rfl ?_
      refine S_val (Y_not rfl) ?_
      refine S_val (Y_pickF rfl rfl) ?_
      refine S_val (Y_move rfl) ?_
      refine S_g 37 rfl (fun hb5 => ?_) (fun hb5 => ?_)  -- g4
      · -- g4T
       first | with_reducible (replace hb5 := nb_nt hb5) | with_reducible (replace hb5 := nb_tt hb5) | with_reducible (replace hb5 := nb_bt hb5) | skip
       refine S_off rfl rfl ?_
       refine S_off rfl rfl ?_
       refine S_off rfl rfl ?_
       refine S_off rfl rfl ?_
       refine S_val (Y_pickT rfl rfl) ?_
       refine S_val (Y_move rfl) ?_
       refine S_off rfl rfl ?_
       refine S_off rfl rfl ?_
       refine S_off rfl rfl ?_
       refine S_off rfl rfl ?_
       refine S_off rfl rfl ?_
       refine S_val (Y_pickT rfl rfl) ?_
       refine S_nl rfl rfl ?_
       refine th_n (hK8 _ _ ?_)
       clear hK8 K8
       refine S_ifT rfl ?_
       refine wp_seq_k fun K11 hK11 => ?_
       refine Sb 66 rfl ?_  -- 6
       refine S_val (Y_assign rfl) ?_
       refine S_nl rfl rfl ?_
       refine th_n (hK11 _ _ ?_)
       clear hK11 K11
       refine wp_ret ?_
       refine ib_r ?_
       refine th_r ?_
       try clear GL2
       refine th_r ?_
       refine ib_r ?_
       refine th_r ?_
       clear hK6 K6 hK2 K2
       refine ret_r1 rfl rfl ?_  -- r3
       refine ⟨bF (fun e => all_false hk2 (okB_f ?_) e.2.2.1), G⟩
       first | (rw [okP_n (by assumption)]; omega) | (rw [okP_u (by assumption)]; omega)
      · -- g4F
       first | with_reducible (replace hb5 := nb_nf hb5) | with_reducible (replace hb5 := nb_tf hb5) | with_reducible (replace hb5 := nb_bf hb5) | skip
       refine S_on rfl rfl ?_
       refine S_val (Y_field Try.underlying63 rfl fz63_2 (by decide) rfl) ?_
       refine S_on rfl rfl ?_
       refine S_val (Y_load Try.underlying23 rfl rfl (B3.at (by rfl))) ?_  -- l8
       refine S_on rfl rfl ?_
       refine S_val (Y_len Try.underlying23 rfl) ?_
       refine S_on rfl rfl ?_
       refine S_val (Y_gtr rfl rfl) ?_
       refine S_val (Y_pickF rfl rfl) ?_
       refine S_val (Y_move rfl) ?_
       refine S_g 43 rfl (fun hb6 => ?_) (fun hb6 => ?_)  -- g5
       · -- g5T
        first | with_reducible (replace hb6 := nb_nt hb6) | with_reducible (replace hb6 := nb_tt hb6) | with_reducible (replace hb6 := nb_bt hb6) | skip
        refine S_off rfl rfl ?_
        refine S_off rfl rfl ?_
        refine S_off rfl rfl ?_
        refine S_off rfl rfl ?_
        refine S_off rfl rfl ?_
        refine S_val (Y_pickT rfl rfl) ?_
        refine S_nl rfl rfl ?_
        refine th_n (hK8 _ _ ?_)
        clear hK8 K8
        refine S_ifT rfl ?_
        refine wp_seq_k fun K12 hK12 => ?_
        refine Sb 66 rfl ?_  -- 6
        refine S_val (Y_assign rfl) ?_
        refine S_nl rfl rfl ?_
        refine th_n (hK12 _ _ ?_)
        clear hK12 K12
        refine wp_ret ?_
        refine ib_r ?_
        refine th_r ?_
        try clear GL2
        refine th_r ?_
        refine ib_r ?_
        refine th_r ?_
        clear hK6 K6 hK2 K2
        refine ret_r1 rfl rfl ?_  -- r4
        refine ⟨bF (fun e => all_false hk2 (okB_f ?_) e.2.2.1), G⟩
        first | (rw [okP_n (by assumption)]; omega) | (rw [okP_u (by assumption)]; omega)
       · -- g5F
        first | with_reducible (replace hb6 := nb_nf hb6) | with_reducible (replace hb6 := nb_tf hb6) | with_reducible (replace hb6 := nb_bf hb6) | skip
        refine S_on rfl rfl ?_
        refine S_val (Y_loadS Try.underlying32 rfl sz32 rfl (B1.row (by rfl))) ?_  -- l9
        refine S_on rfl rfl ?_
        refine S_val (Y_field Try.underlying63 rfl fz63_2 (by decide) rfl) ?_
        refine S_on rfl rfl ?_
        refine S_val (Y_load Try.underlying23 rfl rfl (B3.at (by rfl))) ?_  -- l10
        refine S_on rfl rfl ?_
        refine S_call rfl en100 (spec_l7Refs_c _ _ _ _ _ _ _ _ (by assumption) _ _ _ (by assumption) (by omega) (by omega)) ?_  -- k2 spec.l7Refs
        rintro v6 w6 ⟨rfl, g6⟩
        replace hA := hA.grow g6
        replace hB := hB.grow g6
        replace cc2 := cc2.grow g6
        replace hE2 := hE2.grow g6
        replace G := G.grow g6
        replace GL2 := GL2.grow g6
        replace B1 := B1.grow g6
        replace B3 := B3.grow g6
        have zg6 := g6.size
        refine S_on rfl rfl ?_
        refine S_val (Y_not rfl) ?_
        refine S_val (Y_pickF rfl rfl) ?_
        refine S_nl rfl rfl ?_
        refine th_n (hK8 _ _ ?_)
        clear hK8 K8
        refine S_if rfl (fun hb7 => ?_) (fun hb7 => ?_)  -- c2
        · -- c2T
         first | with_reducible (replace hb7 := nb_nt hb7) | with_reducible (replace hb7 := nb_tt hb7) | with_reducible (replace hb7 := nb_bt hb7) | skip
         refine wp_seq_k fun K13 hK13 => ?_
         refine Sb 66 rfl ?_  -- 6
         refine S_val (Y_assign rfl) ?_
         refine S_nl rfl rfl ?_
         refine th_n (hK13 _ _ ?_)
         clear hK13 K13
         refine wp_ret ?_
         refine ib_r ?_
         refine th_r ?_
         try clear GL2
         refine th_r ?_
         refine ib_r ?_
         refine th_r ?_
         clear hK6 K6 hK2 K2
         refine ret_r1 rfl rfl ?_  -- r5
         rw [all_len0 (by omega)] at hb7
         cases hb7
        · -- c2F
         first | with_reducible (replace hb7 := nb_nf hb7) | with_reducible (replace hb7 := nb_tf hb7) | with_reducible (replace hb7 := nb_bf hb7) | skip
         refine wp_skip ?_
         refine ib_n ?_
         refine th_n (hK6 _ _ ?_)
         clear hK6 K6
         refine Sb 66 rfl ?_  -- 3
         refine S_val (Y_move rfl) ?_
         refine S_val (Y_inc rfl rfl (by omega)) ?_
         refine S_val (Y_assign rfl) ?_
         refine S_nl rfl rfl ?_
         refine th_n ?_
         go_roundw  -- e1 of L1
         case rel =>
          refine ⟨?_, GL2⟩
          exact ⟨k + 1, rfl, by omega, all_take_succ (by omega) hs (okB_t ((okP_n hb2).2 ⟨hb3, by omega⟩))⟩
         case measure =>
          exact dec_nat (by omega)
   · -- g1F
    first | with_reducible (replace hb2 := nb_nf hb2) | with_reducible (replace hb2 := nb_tf hb2) | with_reducible (replace hb2 := nb_bf hb2) | skip
    refine S_off rfl rfl ?_
    refine S_off rfl rfl ?_
    refine S_off rfl rfl ?_
    refine S_off rfl rfl ?_
    refine S_offU rfl rfl ?_
    refine S_offU rfl rfl ?_
    refine S_offU rfl rfl ?_
    refine S_offU rfl rfl ?_
    refine S_off rfl rfl ?_
    refine S_val (Y_pickF rfl rfl) ?_
    refine S_val (Y_move rfl) ?_
    refine S_on rfl rfl ?_
    refine S_val (Y_field Try.underlying63 rfl fz63_1 (by decide) rfl) ?_
    refine S_on rfl rfl ?_
    refine S_val (Y_load Try.underlying3 rfl rfl (B3.at (by rfl))) ?_  -- l11
    refine S_on rfl rfl ?_
    refine S_call rfl en52 (spec_l1In_c _ _ _ _) ?_  -- k3 spec.l1In
    rintro v w' ⟨rfl, rfl⟩
    refine S_on rfl rfl ?_
    refine S_val (Y_not rfl) ?_
    refine S_val (Y_pickF rfl rfl) ?_
    refine S_val (Y_move rfl) ?_
    refine S_g 37 rfl (fun hb3 => ?_) (fun hb3 => ?_)  -- g6
    · -- g6T
     first | with_reducible (replace hb3 := nb_nt hb3) | with_reducible (replace hb3 := nb_tt hb3) | with_reducible (replace hb3 := nb_bt hb3) | skip
     refine S_off rfl rfl ?_
     refine S_off rfl rfl ?_
     refine S_off rfl rfl ?_
     refine S_off rfl rfl ?_
     refine S_val (Y_pickT rfl rfl) ?_
     refine S_val (Y_move rfl) ?_
     refine S_off rfl rfl ?_
     refine S_off rfl rfl ?_
     refine S_off rfl rfl ?_
     refine S_off rfl rfl ?_
     refine S_off rfl rfl ?_
     refine S_val (Y_pickT rfl rfl) ?_
     refine S_nl rfl rfl ?_
     refine th_n (hK8 _ _ ?_)
     clear hK8 K8
     refine S_ifT rfl ?_
     refine wp_seq_k fun K14 hK14 => ?_
     refine Sb 66 rfl ?_  -- 6
     refine S_val (Y_assign rfl) ?_
     refine S_nl rfl rfl ?_
     refine th_n (hK14 _ _ ?_)
     clear hK14 K14
     refine wp_ret ?_
     refine ib_r ?_
     refine th_r ?_
     try clear GL2
     refine th_r ?_
     refine ib_r ?_
     refine th_r ?_
     clear hK6 K6 hK2 K2
     refine ret_r1 rfl rfl ?_  -- r6
     refine ⟨bF (fun e => all_false hk2 (okB_f ?_) e.2.2.1), G⟩
     first | (rw [okP_n (by assumption)]; omega) | (rw [okP_u (by assumption)]; omega)
    · -- g6F
     first | with_reducible (replace hb3 := nb_nf hb3) | with_reducible (replace hb3 := nb_tf hb3) | with_reducible (replace hb3 := nb_bf hb3) | skip
     refine S_on rfl rfl ?_
     refine S_val (Y_field Try.underlying63 rfl fz63_2 (by decide) rfl) ?_
     refine S_on rfl rfl ?_
     refine S_val (Y_load Try.underlying23 rfl rfl (B3.at (by rfl))) ?_  -- l12
     refine S_on rfl rfl ?_
     refine S_val (Y_len Try.underlying23 rfl) ?_
     refine S_on rfl rfl ?_
     refine S_val (Y_gtr rfl rfl) ?_
     refine S_val (Y_pickF rfl rfl) ?_
     refine S_val (Y_move rfl) ?_
     refine S_g 43 rfl (fun hb4 => ?_) (fun hb4 => ?_)  -- g7
     · -- g7T
      first | with_reducible (replace hb4 := nb_nt hb4) | with_reducible (replace hb4 := nb_tt hb4) | with_reducible (replace hb4 := nb_bt hb4) | skip
      refine S_off rfl rfl ?_
      refine S_off rfl rfl ?_
      refine S_off rfl rfl ?_
      refine S_off rfl rfl ?_
      refine S_off rfl rfl ?_
      refine S_val (Y_pickT rfl rfl) ?_
      refine S_nl rfl rfl ?_
      refine th_n (hK8 _ _ ?_)
      clear hK8 K8
      refine S_ifT rfl ?_
      refine wp_seq_k fun K15 hK15 => ?_
      refine Sb 66 rfl ?_  -- 6
      refine S_val (Y_assign rfl) ?_
      refine S_nl rfl rfl ?_
      refine th_n (hK15 _ _ ?_)
      clear hK15 K15
      refine wp_ret ?_
      refine ib_r ?_
      refine th_r ?_
      try clear GL2
      refine th_r ?_
      refine ib_r ?_
      refine th_r ?_
      clear hK6 K6 hK2 K2
      refine ret_r1 rfl rfl ?_  -- r7
      refine ⟨bF (fun e => all_false hk2 (okB_f ?_) e.2.2.1), G⟩
      first | (rw [okP_n (by assumption)]; omega) | (rw [okP_u (by assumption)]; omega)
     · -- g7F
      first | with_reducible (replace hb4 := nb_nf hb4) | with_reducible (replace hb4 := nb_tf hb4) | with_reducible (replace hb4 := nb_bf hb4) | skip
      refine S_on rfl rfl ?_
      refine S_val (Y_loadS Try.underlying32 rfl sz32 rfl (B1.row (by rfl))) ?_  -- l13
      refine S_on rfl rfl ?_
      refine S_val (Y_field Try.underlying63 rfl fz63_2 (by decide) rfl) ?_
      refine S_on rfl rfl ?_
      refine S_val (Y_load Try.underlying23 rfl rfl (B3.at (by rfl))) ?_  -- l14
      refine S_on rfl rfl ?_
      refine S_call rfl en100 (spec_l7Refs_c _ _ _ _ _ _ _ _ (by assumption) _ _ _ (by assumption) (by omega) (by omega)) ?_  -- k4 spec.l7Refs
      rintro v8 w8 ⟨rfl, g8⟩
      replace hA := hA.grow g8
      replace hB := hB.grow g8
      replace cc2 := cc2.grow g8
      replace hE2 := hE2.grow g8
      replace G := G.grow g8
      replace GL2 := GL2.grow g8
      replace B1 := B1.grow g8
      replace B3 := B3.grow g8
      have zg8 := g8.size
      refine S_on rfl rfl ?_
      refine S_val (Y_not rfl) ?_
      refine S_val (Y_pickF rfl rfl) ?_
      refine S_nl rfl rfl ?_
      refine th_n (hK8 _ _ ?_)
      clear hK8 K8
      refine S_if rfl (fun hb5 => ?_) (fun hb5 => ?_)  -- c3
      · -- c3T
       first | with_reducible (replace hb5 := nb_nt hb5) | with_reducible (replace hb5 := nb_tt hb5) | with_reducible (replace hb5 := nb_bt hb5) | skip
       refine wp_seq_k fun K16 hK16 => ?_
       refine Sb 66 rfl ?_  -- 6
       refine S_val (Y_assign rfl) ?_
       refine S_nl rfl rfl ?_
       refine th_n (hK16 _ _ ?_)
       clear hK16 K16
       refine wp_ret ?_
       refine ib_r ?_
       refine th_r ?_
       try clear GL2
       refine th_r ?_
       refine ib_r ?_
       refine th_r ?_
       clear hK6 K6 hK2 K2
       refine ret_r1 rfl rfl ?_  -- r8
       refine ⟨bF (fun e => all_false hk2 (okB_f ?_) e.2.2.1), G⟩
       rw [okP_u hb2, hb5]
       intro x
       cases x.1
      · -- c3F
       first | with_reducible (replace hb5 := nb_nf hb5) | with_reducible (replace hb5 := nb_tf hb5) | with_reducible (replace hb5 := nb_bf hb5) | skip
       refine wp_skip ?_
       refine ib_n ?_
       refine th_n (hK6 _ _ ?_)
       clear hK6 K6
       refine Sb 66 rfl ?_  -- 3
       refine S_val (Y_move rfl) ?_
       refine S_val (Y_inc rfl rfl (by omega)) ?_
       refine S_val (Y_assign rfl) ?_
       refine S_nl rfl rfl ?_
       refine th_n ?_
       go_roundw  -- e2 of L1
       case rel =>
        refine ⟨?_, GL2⟩
        exact ⟨k + 1, rfl, by omega, all_take_succ (by omega) hs (okB_t ((okP_u hb2).2 ⟨hb5, by omega, by omega, by omega⟩))⟩
       case measure =>
        exact dec_nat (by omega)
  · -- c1F
   replace hb1 := nb_tf hb1
   have hall := all_of_take (by omega) hs
   refine wp_exit ?_
   refine th_x ?_
   try clear GL2
   refine th_x ?_
   refine ib_e ?_
   refine th_n (hK2 _ _ ?_)
   clear hK4 K4 hK2 K2
   refine wp_seq_k fun K17 hK17 => ?_
   refine Sb 66 rfl ?_  -- 7
   refine S_val (Y_field Try.underlying32 rfl fz32_0 (by decide) rfl) ?_
   refine S_val (Y_load Try.underlying30 rfl rfl (B1.at (by rfl))) ?_  -- l15
   refine S_val (Y_len Try.underlying30 rfl) ?_
   refine S_val (Y_leq rfl rfl) ?_
   refine S_val (Y_move rfl) ?_
   refine S_g 54 rfl (fun hb2 => ?_) (fun hb2 => ?_)  -- g8
   · -- g8T
    replace hb2 := nb_tt hb2
    refine S_on rfl rfl ?_
    refine S_val (Y_field Try.underlying32 rfl fz32_1 (by decide) rfl) ?_
    refine S_on rfl rfl ?_
    refine S_val (Y_load Try.underlying23 rfl rfl (B1.at (by rfl))) ?_  -- l16
    refine S_on rfl rfl ?_
    refine S_val (Y_len Try.underlying23 rfl) ?_
    refine S_on rfl rfl ?_
    refine S_val (Y_eql rfl rfl) ?_
    refine S_val (Y_pickT rfl rfl) ?_
    refine S_val (Y_move rfl) ?_
    refine S_g 60 rfl (fun hb3 => ?_) (fun hb3 => ?_)  -- g9
    · -- g9T
     first | with_reducible (replace hb3 := nb_nt hb3) | with_reducible (replace hb3 := nb_tt hb3) | with_reducible (replace hb3 := nb_bt hb3) | skip
     refine S_on rfl rfl ?_
     refine S_val (Y_loadS Try.underlying32 rfl sz32 rfl (B1.row (by rfl))) ?_  -- l17
     refine S_on rfl rfl ?_
     refine S_val (Y_field Try.underlying32 rfl fz32_1 (by decide) rfl) ?_
     refine S_on rfl rfl ?_
     refine S_val (Y_load Try.underlying23 rfl rfl (B1.at (by rfl))) ?_  -- l18
     refine S_on rfl rfl ?_
     refine S_call rfl en100 (spec_l7Refs_c _ _ _ _ _ _ _ _ (by assumption) _ _ _ (by assumption) (by omega) (by omega)) ?_  -- k5 spec.l7Refs
     rintro v9 w9 ⟨rfl, g9⟩
     replace hA := hA.grow g9
     replace hB := hB.grow g9
     replace G := G.grow g9
     replace B1 := B1.grow g9
     have zg9 := g9.size
     refine S_val (Y_pickT rfl rfl) ?_
     refine S_val (Y_assign rfl) ?_
     refine S_nl rfl rfl ?_
     refine th_n (hK17 _ _ ?_)
     clear hK17 K17
     refine wp_ret ?_
     refine ret_r1 rfl rfl ?_  -- r9
     refine ⟨bAD ?_, G⟩
     constructor
     · exact fun e => ⟨by omega, by omega, hall, e⟩
     · exact fun e => e.2.2.2
    · -- g9F
     first | with_reducible (replace hb3 := nb_nf hb3) | with_reducible (replace hb3 := nb_tf hb3) | with_reducible (replace hb3 := nb_bf hb3) | skip
     refine S_off rfl rfl ?_
     refine S_off rfl rfl ?_
     refine S_off rfl rfl ?_
     refine S_off rfl rfl ?_
     refine S_val (Y_pickF rfl rfl) ?_
     refine S_val (Y_assign rfl) ?_
     refine S_nl rfl rfl ?_
     refine th_n (hK17 _ _ ?_)
     clear hK17 K17
     refine wp_ret ?_
     refine ret_r1 rfl rfl ?_  -- r10
     exact ⟨bF (by omega), G⟩
   · -- g8F
    replace hb2 := nb_tf hb2
    refine S_off rfl rfl ?_
    refine S_off rfl rfl ?_
    refine S_off rfl rfl ?_
    refine S_off rfl rfl ?_
    refine S_val (Y_pickF rfl rfl) ?_
    refine S_val (Y_move rfl) ?_
    refine S_off rfl rfl ?_
    refine S_off rfl rfl ?_
    refine S_off rfl rfl ?_
    refine S_off rfl rfl ?_
    refine S_val (Y_pickF rfl rfl) ?_
    refine S_val (Y_assign rfl) ?_
    refine S_nl rfl rfl ?_
    refine th_n (hK17 _ _ ?_)
    clear hK17 K17
    refine wp_ret ?_
    refine ret_r1 rfl rfl ?_  -- r11
    exact ⟨bF (by omega), G⟩
end
/-! Draw -/
section
open Go Go.RowKit
section
variable {P : Program} {F : Fr} {w : World} {t t' : TypeId} {x y : Operand}
theorem Y_conv8 {src dst : TypeId} {n : Int} {d : TypeDesc} (hs : P.underlying src = some d) (hd : P.underlying dst = some (.int .i64)) (hx : ev F x = some (.int .u8 n)) (h0 : 0 ≤ n) (h1 : n ≤ 255) : Yl P F (.convert src dst x) (.int .i64 n) w w := fun D _ _ _ _ _ => by
  simp [execOp, ev_eval (D := D) hx, convert, run_underlying hs, run_underlying hd, Conv.intToInt]
  rw [IntKind.wrap_i64]
  omega
theorem Y_minN {ts : Array TypeId} {a b : Nat} (hx : ev F x = some (.int .i64 (a : Int))) (hy : ev F y = some (.int .i64 (b : Int))) : Yl P F (.call ⟨.builtin .min, #[x, y], ts⟩) (.int .i64 ((min a b : Nat) : Int)) w w := fun D _ _ _ _ _ => by
  have e : (if b < a then (b : Int) else (a : Int)) = ((min a b : Nat) : Int) := by
    split <;> omega
  simp [execOp, resolve, invoke, builtin, ev_eval (D := D) hx, ev_eval (D := D) hy, Builtin.min_, Builtin.min2, e]
theorem Y_xor {a b : Int} (hx : ev F x = some (.int .i64 a)) (hy : ev F y = some (.int .i64 b)) (h0 : 0 ≤ a) (h1 : 0 ≤ b) (ha : a < 9223372036854775808) (hb : b < 9223372036854775808) : Yl P F (.binOp .xor t x y t') (.int .i64 ((a.toNat ^^^ b.toNat : Nat) : Int)) w w := fun D _ _ _ _ _ => by
  obtain ⟨m, rfl⟩ := Int.eq_ofNat_of_zero_le h0
  obtain ⟨n, rfl⟩ := Int.eq_ofNat_of_zero_le h1
  have hm : m < 2 ^ 63 := by omega
  have hn : n < 2 ^ 63 := by omega
  have e1 : m % 2 ^ 64 = m := Nat.mod_eq_of_lt (Nat.lt_of_lt_of_le hm (by decide))
  have e2 : n % 2 ^ 64 = n := Nat.mod_eq_of_lt (Nat.lt_of_lt_of_le hn (by decide))
  have hlt := Nat.xor_lt_two_pow hm hn
  have hw : IntKind.i64.wrap ((m ^^^ n : Nat) : Int) = ((m ^^^ n : Nat) : Int) := by rw [IntKind.wrap_i64]; omega
  have key : (Op.intBits .xor .i64 (m : Int) (n : Int)) = pure (.int .i64 ((m ^^^ n : Nat) : Int)) := by
    have hh : (BitVec.ofNat 64 m ^^^ BitVec.ofNat 64 n).toNat = m ^^^ n := by rw [BitVec.toNat_xor, BitVec.toNat_ofNat, BitVec.toNat_ofNat, e1, e2]
    simp only [Op.intBits, BitVec.ofInt_natCast, IntKind.bits]
    exact congrArg (fun z => pure (Value.int .i64 z)) ((congrArg (fun z : Nat => IntKind.i64.wrap (z : Int)) hh).trans hw)
  simp [execOp, ev_eval (D := D) hx, ev_eval (D := D) hy, eqGuard_xor, binOp_xor, key]
end
theorem Blk.pickR {w : World} {b : Nat} {e : TypeId} {l : List Int} {lo hi : Int} {k : Nat} (B : Blk w b e (ints l).toArray) (hr : ∀ x ∈ l, lo ≤ x ∧ x ≤ hi) (hk : k < l.length) : ∃ x : Int, w.cell? ⟨b, 0 + k * 1, none⟩ = some (.int .i64 x) ∧ lo ≤ x ∧ x ≤ hi := by
  refine ⟨l[k], ?_, hr _ (List.getElem_mem hk)⟩
  rw [Nat.zero_add, Nat.mul_one]
  exact B.at (by rw [List.getElem?_toArray]; exact ints_get (List.getElem?_eq_getElem hk))
theorem cast_mod {a b : Nat} : ((a : Int) % (b : Int)) = ((a % b : Nat) : Int) := by simp
theorem cast_div {a b : Nat} : ((a : Int) / (b : Int)) = ((a / b : Nat) : Int) := by simp
end
/-! Cmd -/
section
open Go
structure LCmd where
  op : Int
  a : Int
  b : Int
  c : Int
deriving DecidableEq
def cvP (o : LCmd) : Prop := 0 ≤ o.a ∧ o.a ≤ 3 ∧ ((o.op = 1 ∧ 0 ≤ o.b ∧ o.b ≤ 3 ∧ 0 ≤ o.c ∧ o.c ≤ 99) ∨ ((o.op = 2 ∨ o.op = 3) ∧ 0 ≤ o.b ∧ o.b ≤ 3 ∧ 0 ≤ o.c ∧ o.c ≤ 2) ∨
  (o.op = 4 ∧ 0 ≤ o.b ∧ o.b ≤ 3 ∧ o.c = 0) ∨ (o.op = 5 ∧ o.b = 0 ∧ o.c = 0) ∨ (o.op = 6 ∧ 0 ≤ o.b ∧ o.b ≤ 99 ∧ o.c = 0))
instance (o : LCmd) : Decidable (cvP o) := by unfold cvP; infer_instance
/-- An instruction is valid. -/
def cvB (o : LCmd) : Bool := decide (cvP o)
theorem cvB_f {o : LCmd} (h : ¬ cvP o) : Value.bool false = .bool (cvB o) := by simp [cvB, h]
theorem cvB_t {o : LCmd} (h : cvP o) : Value.bool true = .bool (cvB o) := by simp [cvB, h]
theorem cvB_d {o : LCmd} {q : Prop} [Decidable q] (h : q ↔ cvP o) : Value.bool (decide q) = .bool (cvB o) := by simp [cvB, h]
/-- A program is valid. -/
def csB (l : List LCmd) : Bool := decide (l.length ≤ 40 ∧ l.all cvB = true)
def cmdC (o : LCmd) : List Value := [.int .i64 o.op, .int .i64 o.a, .int .i64 o.b, .int .i64 o.c]
/-- A slice of instructions reads as l. -/
def RO (Pr : Nat → Prop) (w : World) (A : Option Addr) (l : List LCmd) : Prop := ∀ (k : Nat) (o : LCmd), l[k]? = some o → ∃ g off, A = some ⟨g, off, none⟩ ∧ Pr g ∧ CellsAt w g (off + k * 4) (cmdC o)
section
variable {w w' : World} {S Pr Pr' : Nat → Prop} {A : Option Addr} {l : List LCmd}
theorem RO.mod (h : RO Pr w A l) (m : Mod S w w') (hd : ∀ k, Pr k → ¬ S k) : RO Pr w' A l := fun k c hc => by
  obtain ⟨g, o, hA, hp, h1⟩ := h k c hc
  exact ⟨g, o, hA, hp, h1.mod m (hd g hp)⟩
theorem RO.md (h : RO Pr w A l) (m : Mod S w w') (hd : ∀ k, Pr k → ¬ S k := by intro k hk h; first | omega | (dsimp only at hk h; omega) | (dsimp only at hk; omega)) : RO Pr w' A l := h.mod m hd
theorem RO.grow (h : RO Pr w A l) (m : Grow w w') : RO Pr w' A l := h.mod m (fun _ _ h => h)
theorem RO.weak (h : RO Pr w A l) (hp : ∀ k, Pr k → Pr' k) : RO Pr' w A l := fun k c hc => by
  obtain ⟨g, o, hA, h0, h1⟩ := h k c hc
  exact ⟨g, o, hA, hp g h0, h1⟩
theorem RO.cell (h : RO Pr w A l) {k : Nat} (hk : k < l.length) : ∃ g o, A = some ⟨g, o, none⟩ ∧ Pr g ∧ CellsAt w g (o + k * 4) [.int .i64 l[k].op, .int .i64 l[k].a, .int .i64 l[k].b, .int .i64 l[k].c] := h k _ (by simp [hk])
theorem RO.below (h : RO Pr w A l) : RO (fun k => k < w.heap.size) w A l := fun k c hc => by
  obtain ⟨g, o, hA, _, h1⟩ := h k c hc
  exact ⟨g, o, hA, World.block_lt_of_cell? w _ (h1.at (j := 0) rfl), h1⟩
end
/-- The cells of instructions, flat. -/
def flatO : List LCmd → List Value
  | [] => []
  | o :: l => cmdC o ++ flatO l
theorem flatO_len : ∀ (l : List LCmd), (flatO l).length = l.length * 4
  | [] => rfl
  | o :: l => by rw [flatO, List.length_append, flatO_len l, List.length_cons]; simp [cmdC]; omega
theorem flatO_app : ∀ (l m : List LCmd), flatO (l ++ m) = flatO l ++ flatO m
  | [], _ => rfl
  | o :: l, m => by rw [List.cons_append, flatO, flatO, flatO_app l m, List.append_assoc]
theorem flatO_at {l : List LCmd} {k : Nat} {o : LCmd} (h : l[k]? = some o) : flatO l = flatO (l.take k) ++ cmdC o ++ flatO (l.drop (k + 1)) := by
  obtain ⟨h1, e1⟩ := List.getElem?_eq_some_iff.1 h
  have a : l = l.take k ++ (o :: l.drop (k + 1)) := by
    rw [← e1, ← List.drop_eq_getElem_cons, List.take_append_drop]
  conv => lhs; rw [a]
  rw [flatO_app, flatO, List.append_assoc]
theorem RO.of_blk {Pr : Nat → Prop} {w : World} {b : Nat} {e : TypeId} {l : List LCmd} {post : List Value} (h : Blk w b e (flatO l ++ post).toArray) (hp : Pr b) : RO Pr w (some ⟨b, 0, none⟩) l := fun k o hk => by
  refine ⟨b, 0, rfl, hp, ?_⟩
  have hl := (List.getElem?_eq_some_iff.1 hk).1
  rw [flatO_at hk, List.append_assoc] at h
  rw [Nat.zero_add]
  exact CellsAt.of_blk h (by rw [flatO_len, List.length_take]; omega)
theorem RO.of_blk0 {Pr : Nat → Prop} {w : World} {b : Nat} {e : TypeId} {l : List LCmd} (h : Blk w b e (flatO l).toArray) (hp : Pr b) : RO Pr w (some ⟨b, 0, none⟩) l := RO.of_blk (post := []) (by simpa using h) hp
end
/-! Reach -/
section
open Go
/-- The references of a cell. -/
def refsOf (cs : List LC) (n : Nat) : List Int := match cs[n]? with
  | some c => c.refs
  | none => []
theorem refsOf_at {cs : List LC} {n : Nat} (h : n < cs.length) : refsOf cs n = cs[n].refs := by simp [refsOf, h]
/-- n can be reached from the references fr, through cells that ok lets by. -/
inductive Rch (cs : List LC) (fr : List Int) (ok : Int → Bool) : Nat → Prop
  | root {n : Nat} : (n : Int) ∈ fr → ok n = true → Rch cs fr ok n
  | step {m n : Nat} : Rch cs fr ok m → (n : Int) ∈ refsOf cs m → ok n = true → Rch cs fr ok n
/-- Meet the references rs, in their order. -/
def meet1 (ok : Int → Bool) (s : List Int) (r : Int) : List Int := if ok r = true ∧ r ∉ s then s ++ [r] else s
def meet (ok : Int → Bool) (s : List Int) (rs : List Int) : List Int := rs.foldl (meet1 ok) s
theorem meet_succ {ok : Int → Bool} {s rs : List Int} {k : Nat} (h : k < rs.length) : meet ok s (rs.take (k + 1)) = meet1 ok (meet ok s (rs.take k)) rs[k] := by
  unfold meet
  rw [List.take_succ_eq_append_getElem h, List.foldl_append]
  rfl
theorem meet_all {ok : Int → Bool} {s rs : List Int} {k : Nat} (h : rs.length ≤ k) : meet ok s (rs.take k) = meet ok s rs := by rw [List.take_of_length_le h]
theorem meet1_mem {ok : Int → Bool} {s : List Int} {r x : Int} : x ∈ meet1 ok s r ↔ x ∈ s ∨ (x = r ∧ ok r = true) := by
  unfold meet1
  split
  · rename_i h
    simp [h.1]
  · rename_i h
    constructor
    · exact .inl
    · rintro (hx | ⟨rfl, ho⟩)
      · exact hx
      · by_cases hx : x ∈ s
        · exact hx
        · exact absurd ⟨ho, hx⟩ h
theorem meet_mem {ok : Int → Bool} : ∀ {rs s : List Int} {x : Int}, x ∈ meet ok s rs ↔ x ∈ s ∨ (x ∈ rs ∧ ok x = true)
  | [], s, x => by simp [meet]
  | r :: rs, s, x => by
    have := meet_mem (ok := ok) (rs := rs) (s := meet1 ok s r) (x := x)
    unfold meet at this ⊢
    rw [List.foldl_cons, this, meet1_mem]
    constructor
    · rintro ((h | ⟨rfl, h⟩) | ⟨h1, h2⟩)
      · exact .inl h
      · exact .inr ⟨by simp, h⟩
      · exact .inr ⟨by simp [h1], h2⟩
    · rintro (h | ⟨h1, h2⟩)
      · exact .inl (.inl h)
      · rcases List.mem_cons.1 h1 with rfl | h1
        · exact .inl (.inr ⟨rfl, h2⟩)
        · exact .inr ⟨h1, h2⟩
theorem meet1_nodup {ok : Int → Bool} {s : List Int} {r : Int} (h : s.Nodup) : (meet1 ok s r).Nodup := by
  unfold meet1
  split
  · rename_i hr
    rw [List.nodup_append]
    refine ⟨h, by simp, ?_⟩
    intro a ha b hb
    simp only [List.mem_singleton] at hb
    subst hb
    rintro rfl
    exact hr.2 ha
  · exact h
theorem meet_nodup {ok : Int → Bool} : ∀ {rs s : List Int}, s.Nodup → (meet ok s rs).Nodup
  | [], _, h => h
  | r :: rs, s, h => meet_nodup (rs := rs) (s := meet1 ok s r) (meet1_nodup h)
theorem meet1_pre (ok : Int → Bool) (s : List Int) (r : Int) : ∃ t, meet1 ok s r = s ++ t := by
  unfold meet1
  split
  · exact ⟨_, rfl⟩
  · exact ⟨[], by simp⟩
theorem meet_pre (ok : Int → Bool) : ∀ (rs s : List Int), ∃ t, meet ok s rs = s ++ t
  | [], s => ⟨[], by simp [meet]⟩
  | r :: rs, s => by
    obtain ⟨t, ht⟩ := meet1_pre ok s r
    obtain ⟨u, hu⟩ := meet_pre ok rs (meet1 ok s r)
    refine ⟨t ++ u, ?_⟩
    rw [← List.append_assoc, ← ht, ← hu]
    rfl
/-- The walk that goes on from the place i of the order s. -/
def bfs (cs : List LC) (ok : Int → Bool) : Nat → Nat → List Int → List Int
  | 0, _, s => s
  | f + 1, i, s => match s[i]? with
    | none => s
    | some x => bfs cs ok f (i + 1) (meet ok s (refsOf cs x.toNat))
theorem bfs_end {cs : List LC} {ok : Int → Bool} {f i : Nat} {s : List Int} (h : s.length ≤ i) : bfs cs ok f i s = s := by
  cases f with
  | zero => rfl
  | succ f => simp [bfs, List.getElem?_eq_none h]
theorem bfs_step {cs : List LC} {ok : Int → Bool} {f i n : Nat} {s : List Int} (h : s[i]? = some (n : Int)) : bfs cs ok (f + 1) i s = bfs cs ok f (i + 1) (meet ok s (refsOf cs n)) := by
  simp [bfs, h]
/-- The cells in the order of a walk in rounds. -/
def orderL (cs : List LC) (fr : List Int) (ok : Int → Bool) : List Int := bfs cs ok cs.length 0 (meet ok [] fr)
theorem nodup_bound : ∀ (N : Nat) (s : List Int), s.Nodup → (∀ x ∈ s, 0 ≤ x ∧ x < (N : Int)) → s.length ≤ N
  | 0, s, _, h => by
    cases s with
    | nil => simp
    | cons a l => have := h a (by simp); omega
  | N + 1, s, hd, h => by
    have h2 := nodup_bound N (s.erase (N : Int)) (hd.erase _) (fun x hx => by
      have h3 := (hd.mem_erase_iff).1 hx
      have h4 := h x h3.2
      have h5 := h3.1
      omega)
    rw [List.length_erase] at h2
    split at h2 <;> omega
/-- What holds of the order while the walk runs, at the place i. -/
structure Ord (cs : List LC) (fr : List Int) (ok : Int → Bool) (i : Nat) (s : List Int) : Prop where
  nodup : s.Nodup
  okay : ∀ x ∈ s, ok x = true
  le : i ≤ s.length
  roots : ∀ x ∈ fr, ok x = true → x ∈ s
  clos : ∀ (j m n : Nat), j < i → s[j]? = some (m : Int) → (n : Int) ∈ refsOf cs m → ok n = true → (n : Int) ∈ s
  sound : ∀ n : Nat, (n : Int) ∈ s → Rch cs fr ok n
theorem Ord.start (cs : List LC) (fr : List Int) (ok : Int → Bool) : Ord cs fr ok 0 (meet ok [] fr) :=
  ⟨meet_nodup (by simp), fun x hx => by
    rw [meet_mem] at hx
    rcases hx with hx | hx
    · simp at hx
    · exact hx.2, Nat.zero_le _, fun x hx ho => meet_mem.2 (.inr ⟨hx, ho⟩), fun j m n hj => by omega, fun n hn => by
    rw [meet_mem] at hn
    rcases hn with hn | hn
    · simp at hn
    · exact .root hn.1 hn.2⟩
theorem Ord.next {cs : List LC} {fr : List Int} {ok : Int → Bool} {i n : Nat} {s : List Int} (h : Ord cs fr ok i s) (hi : s[i]? = some (n : Int)) : Ord cs fr ok (i + 1) (meet ok s (refsOf cs n)) := by
  obtain ⟨t, ht⟩ := meet_pre ok (refsOf cs n) s
  have hlt := (List.getElem?_eq_some_iff.1 hi).1
  refine ⟨meet_nodup h.nodup, fun x hx => ?_, ?_, fun x hx ho => ?_, fun j m k hj hm hk ho => ?_, fun k hk => ?_⟩
  · rcases meet_mem.1 hx with hx | hx
    · exact h.okay x hx
    · exact hx.2
  · rw [ht, List.length_append]; omega
  · exact meet_mem.2 (.inl (h.roots x hx ho))
  · rw [ht, List.getElem?_append_left (by omega)] at hm
    by_cases hj2 : j < i
    · exact meet_mem.2 (.inl (h.clos j m k hj2 hm hk ho))
    · have : j = i := by omega
      subst this
      rw [hi] at hm
      have : n = m := by
        have hm2 : (n : Int) = m := by simpa using hm
        omega
      subst this
      exact meet_mem.2 (.inr ⟨hk, ho⟩)
  · rcases meet_mem.1 hk with hk | ⟨hk, ho⟩
    · exact h.sound k hk
    · exact .step (h.sound n (List.mem_of_getElem? hi)) hk ho
/-- Every reference that ok lets by leads to a cell. -/
def Leads (cs : List LC) (fr : List Int) (ok : Int → Bool) : Prop := (∀ x ∈ fr, ok x = true → 0 ≤ x ∧ x < (cs.length : Int)) ∧ ∀ m, ∀ x ∈ refsOf cs m, ok x = true → 0 ≤ x ∧ x < (cs.length : Int)
theorem Rch.lt {cs : List LC} {fr : List Int} {ok : Int → Bool} (hl : Leads cs fr ok) {n : Nat} (h : Rch cs fr ok n) : n < cs.length := by
  cases h with
  | root h1 h2 => have := hl.1 _ h1 h2; omega
  | step _ h1 h2 => have := hl.2 _ _ h1 h2; omega
theorem Ord.all {cs : List LC} {fr : List Int} {ok : Int → Bool} {i : Nat} {s : List Int} (h : Ord cs fr ok i s) (hi : s.length ≤ i) {n : Nat} (hn : Rch cs fr ok n) : (n : Int) ∈ s := by
  induction hn with
  | root h1 h2 => exact h.roots _ h1 h2
  | step _ h1 h2 ih =>
    obtain ⟨j, hj⟩ := List.getElem?_of_mem ih
    have := (List.getElem?_eq_some_iff.1 hj).1
    exact h.clos j _ _ (by omega) hj h1 h2
theorem Ord.mem_lt {cs : List LC} {fr : List Int} {ok : Int → Bool} {i : Nat} {s : List Int} (h : Ord cs fr ok i s) (hl : Leads cs fr ok) (ho : ∀ x, ok x = true → 0 ≤ x) {x : Int} (hx : x ∈ s) : 0 ≤ x ∧ x < (cs.length : Int) := by
  have h0 := ho x (h.okay x hx)
  obtain ⟨n, rfl⟩ := Int.eq_ofNat_of_zero_le h0
  have := (h.sound n hx).lt hl
  omega
end
/-! Meet -/
section
open Go
/-- Every reference that is no -1. -/
def nn (r : Int) : Bool := decide (0 ≤ r)
theorem nn_pos {r : Int} (h : nn r = true) : 0 ≤ r := by simpa [nn] using h
/-- Of the first N numbers: which are in s. -/
def mB (N : Nat) (s : List Int) : List Bool := (List.range N).map fun (i : Nat) => decide ((i : Int) ∈ s)
theorem mB_len (N : Nat) (s : List Int) : (mB N s).length = N := by simp [mB]
theorem mB_get {N n : Nat} {s : List Int} (h : n < N) : (mB N s)[n]? = some (decide ((n : Int) ∈ s)) := by simp [mB, h]
theorem mB_at {N n : Nat} {s : List Int} (h : n < N) : (bools (mB N s)).toArray[n]? = some (.bool (decide ((n : Int) ∈ s))) := by
  rw [List.getElem?_toArray]
  exact bools_get (mB_get h)
theorem mB_zero (N : Nat) : zeros [.bool false] N = bools (mB N []) := by
  apply List.ext_getElem?
  intro i
  by_cases hi : i < N
  · rw [zeros_get _ (by decide) N i (by simpa using hi), bools_get (mB_get hi)]
    simp [Nat.mod_one]
  · rw [List.getElem?_eq_none (by rw [zeros_len]; simp; omega), List.getElem?_eq_none (by rw [bools_len, mB_len]; omega)]
theorem split_at {α : Type} {l : List α} {n : Nat} {x : α} (h : l[n]? = some x) : l = l.take n ++ [x] ++ l.drop (n + 1) := by
  obtain ⟨h1, h2⟩ := List.getElem?_eq_some_iff.1 h
  rw [List.append_assoc, List.singleton_append, ← h2, ← List.drop_eq_getElem_cons, List.take_append_drop]
theorem mB_split {N n : Nat} {s : List Int} (h : n < N) : bools (mB N s) = (bools (mB N s)).take n ++ [.bool (decide ((n : Int) ∈ s))] ++ (bools (mB N s)).drop (n + 1) := split_at (bools_get (mB_get h))
theorem mB_set {N n : Nat} {s : List Int} (h : n < N) : (bools (mB N s)).take n ++ [.bool true] ++ (bools (mB N s)).drop (n + 1) = bools (mB N (s ++ [(n : Int)])) := by
  apply List.ext_getElem?
  intro i
  have hl : ((bools (mB N s)).take n).length = n := by rw [List.length_take, bools_len, mB_len]; omega
  by_cases h1 : i < n
  · rw [List.append_assoc, List.getElem?_append_left (by omega), List.getElem?_take, if_pos h1, bools_get (mB_get (by omega)), bools_get (mB_get (by omega))]
    simp
    intro e
    omega
  · by_cases h2 : i = n
    · subst h2
      rw [List.append_assoc, List.getElem?_append_right (by omega), hl, Nat.sub_self, bools_get (mB_get h)]
      simp
    · rw [List.getElem?_append_right (by rw [List.length_append]; simp; omega), List.getElem?_drop, List.length_append, hl]
      simp only [List.length_cons, List.length_nil]
      rw [show n + 1 + (i - (n + (0 + 1))) = i by omega]
      by_cases h3 : i < N
      · rw [bools_get (mB_get h3), bools_get (mB_get h3)]
        simp
        intro e
        omega
      · rw [List.getElem?_eq_none (by rw [bools_len, mB_len]; omega), List.getElem?_eq_none (by rw [bools_len, mB_len]; omega)]
theorem meet1_new {ok : Int → Bool} {s : List Int} {r : Int} (h : ok r = true) (hn : r ∉ s) : meet1 ok s r = s ++ [r] := if_pos ⟨h, hn⟩
theorem meet1_old {ok : Int → Bool} {s : List Int} {r : Int} (hn : r ∈ s) : meet1 ok s r = s := if_neg (fun h => h.2 hn)
theorem meet1_not {ok : Int → Bool} {s : List Int} {r : Int} (hn : ok r = false) : meet1 ok s r = s := if_neg (fun h => by rw [hn] at h; exact absurd h.1 (by decide))
theorem nn_of {r : Int} (h : 0 ≤ r) : nn r = true := by simpa [nn] using h
theorem nn_no {r : Int} (h : ¬ 0 ≤ r) : nn r = false := by simpa [nn] using h
/-- s has each number once, and all below N. -/
def Bnd (N : Nat) (s : List Int) : Prop := s.Nodup ∧ ∀ x ∈ s, 0 ≤ x ∧ x < (N : Int)
theorem Bnd.nil (N : Nat) : Bnd N [] := ⟨by simp, by simp⟩
theorem Bnd.meet {N : Nat} {s rs : List Int} (h : Bnd N s) (hr : ∀ x ∈ rs, nn x = true → 0 ≤ x ∧ x < (N : Int)) : Bnd N (meet nn s rs) :=
  ⟨meet_nodup h.1, fun x hx => by
    rcases meet_mem.1 hx with hx | ⟨hx, ho⟩
    · exact h.2 x hx
    · exact hr x hx ho⟩
theorem Bnd.take {N : Nat} {s rs : List Int} {k : Nat} (h : Bnd N s) (hr : ∀ x ∈ rs, nn x = true → 0 ≤ x ∧ x < (N : Int)) : Bnd N (Go.Proofs.Ytikgflhepclfgac.meet nn s (rs.take k)) := h.meet (fun x hx => hr x (List.mem_of_mem_take hx))
theorem Bnd.len {N : Nat} {s : List Int} (h : Bnd N s) : s.length ≤ N := nodup_bound N s h.1 h.2
theorem Ord.bnd {cs : List LC} {fr : List Int} {i : Nat} {s : List Int} (h : Ord cs fr nn i s) (hl : Leads cs fr nn) : Bnd cs.length s := ⟨h.nodup, fun _ hx => h.mem_lt hl (fun _ => nn_pos) hx⟩
theorem bnd_at {N k : Nat} {s : List Int} (h : Bnd N s) (hk : k < s.length) : ∃ n : Nat, s[k] = (n : Int) ∧ n < N ∧ s[k]? = some (n : Int) := by
  have h1 := h.2 s[k] (List.getElem_mem hk)
  refine ⟨s[k].toNat, by omega, by omega, ?_⟩
  rw [List.getElem?_eq_getElem hk]
  congr 1
  omega
/-- A number that a reference is. -/
theorem ref_at {N : Nat} {rs : List Int} {k : Nat} (hr : ∀ x ∈ rs, nn x = true → 0 ≤ x ∧ x < (N : Int)) (hk : k < rs.length) (h0 : 0 ≤ rs[k]) : ∃ n : Nat, rs[k] = (n : Int) ∧ n < N := by
  have := hr rs[k] (List.getElem_mem hk) (nn_of h0)
  exact ⟨rs[k].toNat, by omega, by omega⟩
theorem ints_app (s : List Int) (x : Int) : ints s ++ [.int .i64 x] = ints (s ++ [x]) := by simp [ints]
theorem Leads.refs {cs : List LC} {fr : List Int} {ok : Int → Bool} (h : Leads cs fr ok) {n : Nat} (hn : n < cs.length) : ∀ x ∈ cs[n].refs, ok x = true → 0 ≤ x ∧ x < (cs.length : Int) := fun x hx ho => h.2 n x (by rw [refsOf_at hn]; exact hx) ho
theorem bfs_go {cs : List LC} {ok : Int → Bool} {k n : Nat} {s : List Int} (hk : k < cs.length) (h : s[k]? = some (n : Int)) : bfs cs ok (cs.length - k) k s = bfs cs ok (cs.length - (k + 1)) (k + 1) (meet ok s (refsOf cs n)) := by
  rw [show cs.length - k = (cs.length - (k + 1)) + 1 by omega]
  exact bfs_step h
end
/-! Mark -/
section
open Go
section
variable {Pr : Nat → Prop} {w w' : World} {e : TypeId} {cs : List LC} {rs : List (Option Addr × Nat)} {i : Nat} {c c' : LC} {r : Option Addr × Nat}
theorem set_get {α : Type} {l : List α} {i j : Nat} {x y : α} (h : (l.set i x)[j]? = some y) : (i = j ∧ y = x) ∨ (i ≠ j ∧ l[j]? = some y) := by
  rw [List.getElem?_set] at h
  by_cases hij : i = j
  · subst hij
    simp only [if_true] at h
    split at h
    · exact .inl ⟨rfl, by simpa using h.symm⟩
    · cases h
  · rw [if_neg hij] at h
    exact .inr ⟨hij, h⟩
/-- The row of one cell was written. -/
theorem ORs.mark (h : ORs Pr w e cs rs) (hc : cs[i]? = some c) (hr : rs[i]? = some r) (m : Mod (fun k => 0 < c.refs.length ∧ r.1 = some ⟨k, 0, none⟩) w w') (hn : OI Pr w' e r.1 (ints c'.refs)) (hl : c'.refs.length = c.refs.length) :
    ORs Pr w' e (cs.set i c') rs := by
  have ne : c'.refs ≠ [] → c.refs ≠ [] := fun h1 h2 => by
    rw [h2] at hl
    exact h1 (List.eq_nil_of_length_eq_zero (by simpa using hl))
  refine ⟨by rw [List.length_set]; exact h.len, fun j x q hx hq => ?_, fun j k x y q q' hx hy hq hq' hjk h1 h2 => ?_⟩
  · rcases set_get hx with ⟨rfl, rfl⟩ | ⟨hij, hx⟩
    · rw [hr] at hq
      cases hq
      exact hn
    · intro hne
      obtain ⟨b, post, hA, hp, hB⟩ := h.own j x q hx hq hne
      refine ⟨b, post, hA, hp, hB.mod m ?_⟩
      rintro ⟨h0, hb⟩
      have hx0 : x.refs ≠ [] := fun e0 => hne (by rw [e0]; rfl)
      have hc0 : c.refs ≠ [] := fun e0 => by rw [e0] at h0; simp at h0
      exact h.far j i x c q r hx hc hq hr (fun e0 => hij e0.symm) hx0 hc0 (by rw [hA, hb])
  · rcases set_get hx with ⟨e1, e2⟩ | ⟨hij, hx2⟩ <;> rcases set_get hy with ⟨e3, e4⟩ | ⟨hik, hy2⟩
    · exact absurd (e1.symm.trans e3) hjk
    · subst e1
      subst e2
      exact h.far _ k c y q q' hc hy2 hq hq' hjk (ne h1) h2
    · subst e3
      subst e4
      exact h.far j _ x c q q' hx2 hc hq hq' hjk h1 (ne h2)
    · exact h.far j k x y q q' hx2 hy2 hq hq' hjk h1 h2
/-- A block of another type was written. -/
theorem ORs.modT {g : Nat} {eC : TypeId} {arr : Array Value} (h : ORs Pr w e cs rs) (B : Blk w g eC arr) (hne : eC ≠ e) (m : Mod (fun i => i = g) w w') : ORs Pr w' e cs rs :=
  ⟨h.len, fun j x q hx hq hn => by
    obtain ⟨b, post, hA, hp, hB⟩ := h.own j x q hx hq hn
    exact ⟨b, post, hA, hp, hB.mod m (fun e0 => by
      subst e0
      exact B.ne hB hne rfl)⟩, h.far⟩
end
theorem hsub {cs : List LC} {j N : Nat} (h : j < cs.length) (hr : rsum cs cs.length ≤ N) : cs[j].refs.length ≤ N := by
  have h1 := rsum_succ h
  have h2 := rsum_mono (cs := cs) (k := j + 1) (n := cs.length) (by omega) (Nat.le_refl _)
  omega
/-- The cells of one cell within the flat row. -/
theorem flat_one {cs : List LC} {rs : List (Option Addr × Nat)} {k : Nat} {c : LC} {r : Option Addr × Nat} {post : List Value} (hl : rs.length = cs.length) (hc : cs[k]? = some c) (hr : rs[k]? = some r) :
    flatC cs rs ++ post = flatC (cs.take k) (rs.take k) ++ [.bool c.used] ++ ([.int .i64 c.data, .slice r.1 c.refs.length r.2] ++ (flatC (cs.drop (k + 1)) (rs.drop (k + 1)) ++ post)) := by
  rw [flatC_at hl hc hr]
  simp
theorem flat_set {cs : List LC} {rs : List (Option Addr × Nat)} {k : Nat} {c : LC} {r : Option Addr × Nat} {post : List Value} (hl : rs.length = cs.length) (hk : k < cs.length) (hr : rs[k]? = some r) :
    flatC (cs.take k) (rs.take k) ++ [.bool c.used] ++ [.int .i64 c.data] ++ ([.slice r.1 c.refs.length r.2] ++ (flatC (cs.drop (k + 1)) (rs.drop (k + 1)) ++ post)) = flatC (cs.set k c) rs ++ post := by
  have h := flat_one (cs := cs.set k c) (rs := rs) (k := k) (c := c) (r := r) (post := post) (by rw [List.length_set]; exact hl) (by simp [hk]) hr
  rw [h, List.take_set_of_le (Nat.le_refl _), List.drop_set_of_lt (by omega)]
  simp
theorem flat_pre {cs : List LC} {rs : List (Option Addr × Nat)} {k : Nat} (hl : rs.length = cs.length) (hk : k ≤ cs.length) : (flatC (cs.take k) (rs.take k)).length = k * 3 := by
  rw [flatC_len (by simp [hl]), List.length_take]
  omega
theorem OI.keep {Pr S : Nat → Prop} {w w' : World} {e : TypeId} {A : Option Addr} {us : List Value} (O : OI Pr w e A us) (m : Mod S w w') (hd : ∀ b, A = some ⟨b, 0, none⟩ → us ≠ [] → ¬ S b) : OI Pr w' e A us := fun hn => by
  obtain ⟨b, post, hA, hp, hB⟩ := O hn
  exact ⟨b, post, hA, hp, hB.mod m (hd b hA hn)⟩
theorem ints_ne {xs : List Int} : ints xs ≠ [] ↔ xs ≠ [] := by simp [ints]
/-- The cells' memory is other memory than the roots'. -/
def Off (Pr : Nat → Prop) (B : Option Addr) (xs : List Int) : Nat → Prop := fun i => Pr i ∧ ¬ (B = some ⟨i, 0, none⟩ ∧ xs ≠ [])
theorem OH.split {Pr : Nat → Prop} {w : World} {eC eI : TypeId} {A B : Option Addr} {h : LH} {rs : List (Option Addr × Nat)} (o : OH Pr w eC eI A B h rs) (hne : eC ≠ eI) : OC (Off Pr B h.roots) w eC eI A h.cells rs := by
  refine ⟨⟨o.cells.rows.len, fun i c r hc hr hn => ?_, o.cells.rows.far⟩, fun hn => ?_⟩
  · obtain ⟨b, post, hA, hp, hB⟩ := o.cells.rows.own i c r hc hr hn
    refine ⟨b, post, hA, ⟨hp, ?_⟩, hB⟩
    rintro ⟨e1, e2⟩
    exact o.far i c r hc hr (ints_ne.1 hn) e2 (by rw [hA, e1])
  · obtain ⟨g, post, hA, hp, hB⟩ := o.cells.blk hn
    refine ⟨g, post, hA, ⟨hp, ?_⟩, hB⟩
    rintro ⟨e1, e2⟩
    obtain ⟨b, _, hb, _, hB2⟩ := o.roots (ints_ne.2 e2)
    rw [e1] at hb
    cases hb
    exact hB.ne hB2 hne rfl
end
/-! Steps -/
section
open Go
theorem usedAt_lt {cs : List LC} {n : Nat} (h : usedAt cs n = true) : n < cs.length := by
  unfold usedAt at h
  split at h
  · rename_i c hc
    exact (List.getElem?_eq_some_iff.1 hc).1
  · cases h
theorem leadsB_lt {cs : List LC} {r : Int} (h : leadsB cs r = true) (h0 : 0 ≤ r) : r < (cs.length : Int) := by
  unfold leadsB at h
  have h1 : ¬ r = -1 := by omega
  simp only [h1, decide_false, Bool.false_or, Bool.and_eq_true] at h
  have := usedAt_lt h.2
  omega
structure Valid (h : LH) : Prop where
  le : h.cells.length ≤ 40
  roots4 : h.roots.length = 4
  cells : ∀ (n : Nat) (hn : n < h.cells.length), okP h.cells h.cells[n]
  roots : ∀ r ∈ h.roots, leadsB h.cells r = true
theorem valid_iff {h : LH} : validB h = true ↔ Valid h := by
  unfold validB
  rw [decide_eq_true_eq]
  constructor
  · rintro ⟨h1, h2, h3, h4⟩
    refine ⟨h1, h2, fun n hn => ?_, fun r hr => List.all_eq_true.1 h4 r hr⟩
    have := List.all_eq_true.1 h3 h.cells[n] (List.getElem_mem hn)
    simpa [okB] using this
  · rintro ⟨h1, h2, h3, h4⟩
    refine ⟨h1, h2, List.all_eq_true.2 fun c hc => ?_, List.all_eq_true.2 h4⟩
    obtain ⟨n, hn, rfl⟩ := List.getElem_of_mem hc
    simpa [okB] using h3 n hn
theorem Valid.refs3 {h : LH} (v : Valid h) {n : Nat} (hn : n < h.cells.length) : h.cells[n].refs.length ≤ 3 := by
  have := v.cells n hn
  unfold okP at this
  cases hu : h.cells[n].used with
  | true => exact (this.1 hu).2.2.2
  | false => have := (this.2 hu).2; omega
theorem Valid.refs {h : LH} (v : Valid h) {n : Nat} (hn : n < h.cells.length) : ∀ r ∈ h.cells[n].refs, leadsB h.cells r = true := fun r hr => by
  have := v.cells n hn
  unfold okP at this
  cases hu : h.cells[n].used with
  | true => exact List.all_eq_true.1 (this.1 hu).1 r hr
  | false =>
    have h0 := (this.2 hu).2
    rw [List.eq_nil_of_length_eq_zero h0] at hr
    cases hr
theorem Valid.leads {h : LH} (v : Valid h) : Leads h.cells h.roots nn := by
  refine ⟨fun x hx ho => ⟨nn_pos ho, leadsB_lt (v.roots x hx) (nn_pos ho)⟩, fun m x hx ho => ⟨nn_pos ho, ?_⟩⟩
  by_cases hm : m < h.cells.length
  · rw [refsOf_at hm] at hx
    exact leadsB_lt (v.refs hm x hx) (nn_pos ho)
  · simp [refsOf, List.getElem?_eq_none (by omega : h.cells.length ≤ m)] at hx
theorem bfs_bnd {cs : List LC} {fr : List Int} (hl : Leads cs fr nn) : ∀ (f i : Nat) (s : List Int), Bnd cs.length s → Bnd cs.length (bfs cs nn f i s)
  | 0, _, _, h => h
  | f + 1, i, s, h => by
    unfold bfs
    split
    · exact h
    · exact bfs_bnd hl f _ _ (h.meet (fun x hx => hl.2 _ x hx))
theorem orderL_bnd {cs : List LC} {fr : List Int} (hl : Leads cs fr nn) : Bnd cs.length (orderL cs fr nn) := bfs_bnd hl _ _ _ ((Bnd.nil _).meet hl.1)
end
/-! Name -/
section
open Go
/-- The number of x in an order, or -1. -/
def nameIn (o : List Int) (x : Int) : Int := if x ∈ o then ((o.idxOf x : Nat) : Int) else -1
theorem nameIn_no {o : List Int} {x : Int} (h : x ∉ o) : nameIn o x = -1 := if_neg h
theorem nameIn_at {o : List Int} {x : Int} {k : Nat} (hk : k < o.length) (h1 : x ∉ o.take k) (h2 : o[k] = x) : nameIn o x = (k : Int) := by
  have hm : x ∈ o := by rw [← h2]; exact List.getElem_mem hk
  unfold nameIn
  rw [if_pos hm]
  have e : o = o.take k ++ o.drop k := (List.take_append_drop k o).symm
  have : o.idxOf x = k := by
    rw [e, List.idxOf_append, if_neg h1, List.drop_eq_getElem_cons hk, h2, List.idxOf_cons_self, List.length_take]
    omega
  rw [this]
theorem nameIn_snoc {o : List Int} {c : Int} (hc : c ∉ o) (x : Int) : nameIn (o ++ [c]) x = if x = c then (o.length : Int) else nameIn o x := by
  by_cases h : x = c
  · subst h
    rw [if_pos rfl]
    exact nameIn_at (by simp) (by simpa using hc) (by simp)
  · rw [if_neg h]
    unfold nameIn
    by_cases hx : x ∈ o
    · rw [if_pos hx, if_pos (by simp [hx]), List.idxOf_append, if_pos hx]
    · rw [if_neg hx, if_neg (by simp [hx, h])]
theorem nameIn_lt {o : List Int} (x : Int) : nameIn o x < (o.length : Int) := by
  unfold nameIn
  split
  · rename_i h
    have := List.idxOf_lt_length_of_mem h
    omega
  · omega
theorem nameIn_ge {o : List Int} (x : Int) : -1 ≤ nameIn o x := by
  unfold nameIn
  split <;> omega
theorem notMem_take {o : List Int} {x : Int} {k : Nat} (hk : k < o.length) (h1 : x ∉ o.take k) (h2 : ¬ o[k] = x) : x ∉ o.take (k + 1) := by
  rw [List.take_succ_eq_append_getElem hk]
  simp only [List.mem_append, List.mem_singleton, not_or]
  exact ⟨h1, fun e => h2 e.symm⟩
/-- The numbers of the first N cells. -/
def namesL (N : Nat) (o : List Int) : List Int := (List.range N).map fun (i : Nat) => nameIn o (i : Int)
theorem namesL_len (N : Nat) (o : List Int) : (namesL N o).length = N := by simp [namesL]
theorem namesL_get {N n : Nat} {o : List Int} (h : n < N) : (namesL N o)[n]? = some (nameIn o (n : Int)) := by simp [namesL, h]
theorem namesL_at {N n : Nat} {o : List Int} (h : n < (namesL N o).length) : (namesL N o)[n] = nameIn o (n : Int) := by simp [namesL]
theorem namesL_nil (N : Nat) : namesL N [] = List.replicate N (-1) := by
  apply List.ext_getElem?
  intro i
  by_cases hi : i < N
  · rw [namesL_get hi, nameIn_no (by simp)]
    simp [hi]
  · rw [List.getElem?_eq_none (by rw [namesL_len]; omega), List.getElem?_eq_none (by simp; omega)]
theorem namesL_split {N n : Nat} {o : List Int} (h : n < N) : ints (namesL N o) = (ints (namesL N o)).take n ++ [.int .i64 (nameIn o (n : Int))] ++ (ints (namesL N o)).drop (n + 1) := split_at (ints_get (namesL_get h))
theorem namesL_set {N n : Nat} {o : List Int} (h : n < N) (hn : (n : Int) ∉ o) : (ints (namesL N o)).take n ++ [.int .i64 (o.length : Int)] ++ (ints (namesL N o)).drop (n + 1) = ints (namesL N (o ++ [(n : Int)])) := by
  apply List.ext_getElem?
  intro i
  have hl : ((ints (namesL N o)).take n).length = n := by rw [List.length_take, ints_len, namesL_len]; omega
  by_cases h1 : i < n
  · rw [List.append_assoc, List.getElem?_append_left (by omega), List.getElem?_take, if_pos h1, ints_get (namesL_get (by omega)), ints_get (namesL_get (by omega)), nameIn_snoc hn, if_neg (by omega)]
  · by_cases h2 : i = n
    · subst h2
      rw [List.append_assoc, List.getElem?_append_right (by omega), hl, Nat.sub_self, ints_get (namesL_get h), nameIn_snoc hn, if_pos rfl]
      simp
    · rw [List.getElem?_append_right (by rw [List.length_append]; simp; omega), List.getElem?_drop, List.length_append, hl]
      simp only [List.length_cons, List.length_nil]
      rw [show n + 1 + (i - (n + (0 + 1))) = i by omega]
      by_cases h3 : i < N
      · rw [ints_get (namesL_get h3), ints_get (namesL_get h3), nameIn_snoc hn, if_neg (by omega)]
      · rw [List.getElem?_eq_none (by rw [ints_len, namesL_len]; omega), List.getElem?_eq_none (by rw [ints_len, namesL_len]; omega)]
/-- A row that is filled with one value. -/
theorem fill_step {N k : Nat} {v z : Value} (_h : k < N) : List.replicate k v ++ [v] ++ zeros [z] (N - k - 1) = List.replicate (k + 1) v ++ zeros [z] (N - (k + 1)) := by
  rw [Nat.sub_sub, List.replicate_succ']
theorem ints_rep (n : Nat) (x : Int) : List.replicate n (Value.int .i64 x) = ints (List.replicate n x) := by simp [ints]
theorem take_notMem {N k n : Nat} {o : List Int} (h : Bnd N o) (hk : k < o.length) (hn : o[k] = (n : Int)) : (n : Int) ∉ o.take k := by
  intro hm
  have h1 := h.1
  rw [← List.take_append_drop k o, List.drop_eq_getElem_cons hk, hn, List.nodup_append] at h1
  exact h1.2.2 _ hm _ (by simp) rfl
/-- The numbers that p lets by, in ascending order. -/
def selL (N : Nat) (p : Nat → Bool) : List Int := ((List.range N).filter p).map fun (i : Nat) => (i : Int)
theorem selL_yes {k : Nat} {p : Nat → Bool} (h : p k = true) : selL (k + 1) p = selL k p ++ [(k : Int)] := by simp [selL, List.range_succ, List.filter_append, h]
theorem selL_no {k : Nat} {p : Nat → Bool} (h : p k = false) : selL (k + 1) p = selL k p := by simp [selL, List.range_succ, List.filter_append, h]
theorem selL_le (N : Nat) (p : Nat → Bool) : (selL N p).length ≤ N := by
  unfold selL
  rw [List.length_map]
  exact Nat.le_trans (List.length_filter_le _ _) (by simp)
theorem selL_mem {N : Nat} {p : Nat → Bool} {x : Int} : x ∈ selL N p ↔ ∃ n : Nat, x = (n : Int) ∧ n < N ∧ p n = true := by
  simp only [selL, List.mem_map, List.mem_filter, List.mem_range]
  constructor
  · rintro ⟨a, ⟨h1, h2⟩, rfl⟩
    exact ⟨a, rfl, h1, h2⟩
  · rintro ⟨n, rfl, h1, h2⟩
    exact ⟨n, ⟨h1, h2⟩, rfl⟩
/-- What a program can see. -/
def seen1 (cs : List LC) (o : List Int) (x : Int) : List Int := match cs[x.toNat]? with
  | some c => [c.data, (c.refs.length : Int)] ++ c.refs.map (nameIn o)
  | none => []
def viewL (cs : List LC) (roots o : List Int) : List Int := roots.map (nameIn o) ++ o.flatMap (seen1 cs o)
theorem seen1_at {cs : List LC} {o : List Int} {n : Nat} (h : n < cs.length) : seen1 cs o (n : Int) = [cs[n].data, (cs[n].refs.length : Int)] ++ cs[n].refs.map (nameIn o) := by simp [seen1, h]
def viewV (h : LH) : List Int := if validB h = true then viewL h.cells h.roots (orderL h.cells h.roots nn) else []
theorem viewV_t {h : LH} (hv : validB h = true) : viewV h = viewL h.cells h.roots (orderL h.cells h.roots nn) := if_pos hv
theorem viewV_f {h : LH} (hv : validB h = false) : viewV h = [] := if_neg (by simp [hv])
end
/-! Dfs -/
section
open Go
theorem Bnd.meetO {N : Nat} {s rs : List Int} {ok : Int → Bool} (h : Bnd N s) (ho : ∀ x, ok x = true → 0 ≤ x ∧ x < (N : Int)) : Bnd N (Go.Proofs.Ytikgflhepclfgac.meet ok s rs) :=
  ⟨meet_nodup h.1, fun x hx => by
    rcases meet_mem.1 hx with hx | ⟨_, hx⟩
    · exact h.2 x hx
    · exact ho x hx⟩
theorem meet_len (ok : Int → Bool) (s rs : List Int) : s.length ≤ (meet ok s rs).length := by
  obtain ⟨t, ht⟩ := meet_pre ok rs s
  rw [ht, List.length_append]
  omega
theorem drop_snoc {s t : List Int} {x : Int} (h : s.length ≤ t.length) : (t ++ [x]).drop s.length = t.drop s.length ++ [x] := by
  rw [List.drop_append_of_le_length h]
/-- What holds of the met cells s and the stack wk. -/
structure Dfs (cs : List LC) (fr : List Int) (ok : Int → Bool) (s wk : List Int) : Prop where
  nodup : s.Nodup
  okay : ∀ x ∈ s, ok x = true
  roots : ∀ x ∈ fr, ok x = true → x ∈ s
  sub : ∀ x ∈ wk, x ∈ s
  clos : ∀ m : Nat, (m : Int) ∈ s → (m : Int) ∈ wk ∨ ∀ n : Nat, (n : Int) ∈ refsOf cs m → ok n = true → (n : Int) ∈ s
  sound : ∀ n : Nat, (n : Int) ∈ s → Rch cs fr ok n
theorem Dfs.start (cs : List LC) (fr : List Int) (ok : Int → Bool) : Dfs cs fr ok (meet ok [] fr) (meet ok [] fr) :=
  ⟨meet_nodup (by simp), fun x hx => by
    rcases meet_mem.1 hx with hx | hx
    · simp at hx
    · exact hx.2, fun x hx ho => meet_mem.2 (.inr ⟨hx, ho⟩), fun x hx => hx, fun m hm => .inl hm, fun n hn => by
    rcases meet_mem.1 hn with hn | hn
    · simp at hn
    · exact .root hn.1 hn.2⟩
theorem Dfs.next {cs : List LC} {fr : List Int} {ok : Int → Bool} {s wk : List Int} {n : Nat} (h : Dfs cs fr ok s (wk ++ [(n : Int)])) :
    Dfs cs fr ok (meet ok s (refsOf cs n)) (wk ++ (meet ok s (refsOf cs n)).drop s.length) := by
  obtain ⟨t, ht⟩ := meet_pre ok (refsOf cs n) s
  have hd : (meet ok s (refsOf cs n)).drop s.length = t := by rw [ht, List.drop_left]
  have hn : (n : Int) ∈ s := h.sub n (by simp)
  rw [hd]
  refine ⟨meet_nodup h.nodup, fun x hx => ?_, fun x hx ho => meet_mem.2 (.inl (h.roots x hx ho)), fun x hx => ?_, fun m hm => ?_, fun k hk => ?_⟩
  · rcases meet_mem.1 hx with hx | hx
    · exact h.okay x hx
    · exact hx.2
  · rcases List.mem_append.1 hx with hx | hx
    · exact meet_mem.2 (.inl (h.sub x (by simp [hx])))
    · rw [ht]; simp [hx]
  · rw [ht] at hm
    rcases List.mem_append.1 hm with hm | hm
    · rcases h.clos m hm with hw | hw
      · rcases List.mem_append.1 hw with hw | hw
        · exact .inl (by simp [hw])
        · have e : (m : Int) = n := by simpa using hw
          have e2 : m = n := by omega
          subst e2
          exact .inr fun k hk ho => meet_mem.2 (.inr ⟨hk, ho⟩)
      · exact .inr fun k hk ho => meet_mem.2 (.inl (hw k hk ho))
    · exact .inl (by simp [hm])
  · rcases meet_mem.1 hk with hk | ⟨hk, ho⟩
    · exact h.sound k hk
    · exact .step (h.sound n hn) hk ho
theorem Dfs.all {cs : List LC} {fr : List Int} {ok : Int → Bool} {s : List Int} (h : Dfs cs fr ok s []) {n : Nat} : (n : Int) ∈ s ↔ Rch cs fr ok n := by
  refine ⟨h.sound n, fun hn => ?_⟩
  induction hn with
  | root h1 h2 => exact h.roots _ h1 h2
  | step _ h1 h2 ih =>
    rcases h.clos _ ih with hw | hw
    · simp at hw
    · exact hw _ h1 h2
theorem cnt : ∀ (N : Nat) (s : List Int), Bnd N s → ((List.range N).filter (fun (i : Nat) => decide ((i : Int) ∈ s))).length = s.length
  | 0, s, h => by
    have := h.len
    simp
    omega
  | N + 1, s, h => by
    rw [List.range_succ, List.filter_append, List.length_append]
    by_cases hn : (N : Int) ∈ s
    · have ih := cnt N (s.erase (N : Int)) ⟨h.1.erase _, fun x hx => by
        have h3 := (h.1.mem_erase_iff).1 hx
        have h4 := h.2 x h3.2
        have h5 := h3.1
        omega⟩
      have e : (List.range N).filter (fun (i : Nat) => decide ((i : Int) ∈ s)) = (List.range N).filter (fun (i : Nat) => decide ((i : Int) ∈ s.erase (N : Int))) := List.filter_congr fun i hi => by
        have hi2 : i < N := by simpa using hi
        have : ¬ ((i : Int) = (N : Int)) := by omega
        simp [h.1.mem_erase_iff, this]
      have hp : 0 < s.length := List.length_pos_of_mem hn
      rw [e, ih, List.length_erase_of_mem hn]
      simp [hn]
      omega
    · have ih := cnt N s ⟨h.1, fun x hx => by
        have h4 := h.2 x hx
        have : x ≠ (N : Int) := fun e => hn (e ▸ hx)
        omega⟩
      rw [ih]
      simp [hn]
/-- How many of the first N numbers are in the word m. -/
def popc (N m : Nat) : Nat := ((List.range N).filter (fun (i : Nat) => m.testBit i)).length
theorem popc_eq {N m : Nat} {s : List Int} (hm : ∀ n : Nat, m.testBit n = decide ((n : Int) ∈ s)) (h : Bnd N s) : popc N m = s.length := by
  rw [← cnt N s h]
  unfold popc
  simp only [hm]
theorem OW.cap {Pr : Nat → Prop} {w : World} {e : TypeId} {s n cap : Nat} {A : Option Addr} {us : List Value} (h : OW Pr w e s A n cap us) : n ≤ cap := by
  rcases h.2 with ⟨_, h2, _⟩ | ⟨g, cur, _, _, _, h4, _⟩ <;> omega
def natAt (w : World) (b : Nat) : Nat := match w.cell? ⟨b, 0, none⟩ with
  | some (.int _ n) => n.toNat
  | _ => 0
def lenAt (w : World) (b : Nat) : Nat := match w.cell? ⟨b, 0, none⟩ with
  | some (.slice _ n _) => n
  | _ => 0
theorem natAt_blk {w : World} {b m : Nat} {e : TypeId} {k : IntKind} (h : Blk w b e [.int k (m : Int)].toArray) : natAt w b = m := by
  unfold natAt
  rw [h.at (i := 0) rfl]
  simp
theorem lenAt_blk {w : World} {b q cap : Nat} {A : Option Addr} {e : TypeId} (h : Blk w b e [.slice A q cap].toArray) : lenAt w b = q := by
  unfold lenAt
  rw [h.at (i := 0) (v := .slice A q cap) rfl]
end
/-! WalkE -/
section
open Go Go.RowKit
attribute [local irreducible] wpList wpAnyH Code.wp dOp
/-- r is in the set m. -/
def hasB (m : Nat) (r : Int) : Bool := decide (0 ≤ r) && m.testBit r.toNat
theorem hasB_nat (m n : Nat) : hasB m (n : Int) = m.testBit n := by simp [hasB]
theorem hasB_neg {m : Nat} {r : Int} (h : ¬ 0 ≤ r) : hasB m r = false := by simp [hasB, h]
theorem has_and (m n : Nat) : Value.bool (decide (((m >>> n &&& 1 : Nat) : Int) = 1)) = .bool (hasB m (n : Int)) := by
  rw [hasB_nat, shr_bit]
  cases m.testBit n <;> rfl
theorem shr_lt {m : Nat} (n : Nat) (h : m < 2 ^ 64) : m >>> n < 2 ^ 64 := Nat.lt_of_le_of_lt (Nat.shiftRight_le m n) h
def listB (m n : Nat) : List Bool := (List.range n).map m.testBit
theorem listB_len (m n : Nat) : (listB m n).length = n := by simp [listB]
theorem listB_snoc {m n k : Nat} (h : k < n) {z : List Value} : bools ((listB m n).take k) ++ [.bool (hasB m (k : Int))] ++ zeros z (n - k - 1) = bools ((listB m n).take (k + 1)) ++ zeros z (n - (k + 1)) := by
  have hk : k < (listB m n).length := by rw [listB_len]; exact h
  rw [List.take_succ_eq_append_getElem hk, hasB_nat, Nat.sub_sub]
  simp [bools, listB]
def countB (bs : List Bool) : Nat := bs.countP (fun b => b)
theorem countB_succ {bs : List Bool} {k : Nat} (h : k < bs.length) : countB (bs.take (k + 1)) = countB (bs.take k) + (if bs[k] = true then 1 else 0) := by
  unfold countB
  rw [List.take_succ_eq_append_getElem h, List.countP_append]
  simp [List.countP_cons]
theorem countB_le (bs : List Bool) : countB bs ≤ bs.length := List.countP_le_length
/-- The set of the places that say yes. -/
def SetOf (m : Nat) (bs : List Bool) : Prop := m < 2 ^ 64 ∧ ∀ i, m.testBit i = (bs[i]? == some true)
theorem SetOf.zero : SetOf 0 [] := ⟨by decide, fun i => by simp⟩
theorem take_get {α : Type} {bs : List α} {k : Nat} (h : k < bs.length) (i : Nat) : (bs.take (k + 1))[i]? = if i = k then some bs[k] else (bs.take k)[i]? := by
  rw [List.getElem?_take, List.getElem?_take]
  by_cases hi : i = k
  · subst hi
    simp [h]
  · by_cases h1 : i < k
    · simp [h1, hi, (by omega : i < k + 1)]
    · simp [h1, hi]
      intro hh
      omega
theorem SetOf.yes {m k : Nat} {bs : List Bool} (h : SetOf m (bs.take k)) (hk : k < bs.length) (h6 : k < 64) (hb : bs[k] = true) : SetOf (addN m k) (bs.take (k + 1)) :=
  ⟨addN_lt h.1 h6, fun i => by
    rw [addN_bit, h.2, take_get hk]
    by_cases hi : i = k
    · subst hi; simp [hb]
    · simp [hi, Ne.symm hi]⟩
theorem SetOf.no {m k : Nat} {bs : List Bool} (h : SetOf m (bs.take k)) (hk : k < bs.length) (hb : bs[k] = false) : SetOf m (bs.take (k + 1)) :=
  ⟨h.1, fun i => by
    rw [h.2, take_get hk]
    by_cases hi : i = k
    · subst hi; simp [hb, List.getElem?_take]
    · simp [hi]⟩
theorem SetOf.whole {m k : Nat} {bs : List Bool} (h : SetOf m (bs.take k)) (hk : bs.length ≤ k) : SetOf m bs := by rwa [List.take_of_length_le hk] at h
theorem R1.of_blk0 {w : World} {b : Nat} {e : TypeId} {us : List Value} (h : Blk w b e us.toArray) : R1 (fun _ => True) w (some ⟨b, 0, none⟩) us := R1.of_blk (post := []) (by simpa using h) trivial
def usedL (cs : List LC) : List Bool := cs.map (·.used)
set_option maxHeartbeats 400000 in
set_option maxRecDepth 20000 in
theorem impl_cellSet_has_c (m : Nat) (r : Int) (w : World) (hm : m < 2 ^ 64) :
    Calls Try.prog 58 #[.int .u64 (m : Int), .int .i64 r] w (Ret fun v w' => v = .bool (hasB m r) ∧ w' = w) := by
 refine enter Try.func58 rfl Try.ntmps58 (L := [_,_,_,_,_,_,_,_,_,_,_,_,_,_]) rfl ?_
 have G := Mod.refl No w
 refine wp_seq_k fun K1 hK1 => ?_
 refine Sb 14 rfl ?_  -- 0
 refine S_val (Y_assign rfl) ?_
 refine S_nl rfl rfl ?_
 refine th_n (hK1 _ _ ?_)
 clear hK1 K1
 refine wp_seq_k fun K2 hK2 => ?_
 refine Sb 14 rfl ?_  -- 1
 refine S_val (Y_move rfl) ?_
 refine S_val (Y_geq rfl rfl) ?_
 refine S_val (Y_move rfl) ?_
 refine S_g 7 rfl (fun hb1 => ?_) (fun hb1 => ?_)  -- g1
 · -- g1T
  replace hb1 := nb_tt hb1
  obtain ⟨n, rfl⟩ := Int.eq_ofNat_of_zero_le hb1
  refine S_on rfl rfl ?_
  refine S_val (Y_move rfl) ?_
  refine S_on rfl rfl ?_
  refine S_val (Y_move rfl) ?_
  refine S_on rfl rfl ?_
  refine S_val (Y_shr rfl rfl hm) ?_
  refine S_on rfl rfl ?_
  refine S_val (Y_and (b := 1) rfl rfl (shr_lt _ hm) (by decide)) ?_
  refine S_on rfl rfl ?_
  refine S_val (Y_eql rfl rfl) ?_
  refine S_val (Y_pickT rfl rfl) ?_
  refine S_val (Y_assign rfl) ?_
  refine S_nl rfl rfl ?_
  refine th_n (hK2 _ _ ?_)
  clear hK2 K2
  refine wp_ret ?_
  refine ret_r1 rfl rfl ?_  -- r1
  exact ⟨has_and m n, rfl⟩
 · -- g1F
  replace hb1 := nb_tf hb1
  refine S_off rfl rfl ?_
  refine S_off rfl rfl ?_
  refine S_off rfl rfl ?_
  refine S_off rfl rfl ?_
  refine S_off rfl rfl ?_
  refine S_val (Y_pickF rfl rfl) ?_
  refine S_val (Y_assign rfl) ?_
  refine S_nl rfl rfl ?_
  refine th_n (hK2 _ _ ?_)
  clear hK2 K2
  refine wp_ret ?_
  refine ret_r1 rfl rfl ?_  -- r2
  exact ⟨by rw [hasB_neg hb1], rfl⟩
set_option maxHeartbeats 400000 in
set_option maxRecDepth 20000 in
theorem impl_cellSet_add_c (m n : Nat) (b1 : Nat) (w : World) (B1 : Blk w b1 78 [.int .u64 (m : Int)].toArray) (hm : m < 2 ^ 64) (hn : n < 64) :
    Calls Try.prog 59 #[.pointer (some ⟨b1, 0, none⟩), .int .i64 (n : Int)] w (Ret fun _v w' => Blk w' b1 78 [.int .u64 ((addN m n : Nat) : Int)].toArray ∧ Mod (fun i => i = b1) w w') := by
 have hn2 : 1 * 2 ^ n < 2 ^ 64 := by rw [Nat.one_mul]; exact Nat.pow_lt_pow_right (by decide) hn
 refine enter Try.func59 rfl Try.ntmps59 (L := [_,_,_,_,_,_,_,_,_,_,_]) rfl ?_
 have G := Mod.refl (fun i => i = b1) w
 refine D_start 8 11 (fun w => Mod (fun i => i = b1) w) follows rfl rfl ?_  -- d1 r0
 intro w1 g1
 replace G := G.grow g1
 replace B1 := B1.grow g1
 have zg1 := g1.size
 have GS1 := Mod.refl (fun i => i = b1) w1
 refine Dq (i := 0) rfl GS1 (fun _ _ => Y_move rfl) ?_
 refine Dq (i := 1) rfl GS1 (fun _ _ => Y_nil rfl) ?_
 refine Dq (i := 3) rfl GS1 (fun _ _ => Y_move rfl) ?_
 refine Dq (i := 4) rfl GS1 (fun _ _ => Y_shl (a := 1) rfl rfl hn2 hn) ?_
 refine D_1 (i := 2) (by kernel_rfl) ?_
 refine E_val (i := 2) rfl (Y_load Try.underlying78 rfl rfl (B1.at (by rfl))) GS1 ?_
 refine Dq (i := 5) rfl GS1 (fun _ _ => Y_or rfl rfl hm hn2) ?_
 refine Dq (i := 6) rfl GS1 (fun _ _ => Y_nil rfl) ?_
 refine D_1 (i := 7) (by kernel_rfl) ?_
 refine E_stM (pre := []) (old := [_]) (post := []) (vs := [_]) (i := 7) rfl sz78 rfl rfl rfl (by first | rfl | assumption) B1 rfl rfl ?_
 intro w3 m3 X3
 replace B1 := Blk.eq (ys := [_]) X3 rfl
 clear X3
 replace G := G.trans m3
 replace GS1 := GS1.trn m3
 have zm3 := m3.size
 refine ⟨GS1, ?_⟩
 refine D_en (by kernel_rfl) rfl rfl ?_
 refine ret_n0 rfl ?_  -- r1
 exact ⟨Blk.eq B1 (by simp [addN]), G⟩
set_option maxHeartbeats 400000 in
set_option maxRecDepth 20000 in
theorem impl_cellSet_list_c (m n : Nat) (w : World) (hm : m < 2 ^ 64) (hn : n ≤ 1048576) :
    Calls Try.prog 62 #[.int .u64 (m : Int), .int .i64 (n : Int)] w (Ret fun v w' => ∃ b, v = .slice (some ⟨b, 0, none⟩) n n ∧ w.heap.size ≤ b ∧ Blk w' b 4 (bools (listB m n)).toArray ∧ Grow w w') := by
 refine enter Try.func62 rfl Try.ntmps62 (L := [_,_,_,_,_,_,_,_,_,_,_,_,_,_,_,_,_,_,_,_,_,_]) rfl ?_
 have G := Mod.refl No w
 refine wp_seq_k fun K1 hK1 => ?_
 refine Sb 22 rfl ?_  -- 0
 refine S_val (Y_assign rfl) ?_
 refine S_nl rfl rfl ?_
 refine th_n (hK1 _ _ ?_)
 clear hK1 K1
 refine wp_seq_k fun K2 hK2 => ?_
 refine Sb 22 rfl ?_  -- 1
 refine S_val (Y_move rfl) ?_
 refine S_make (z := [.bool false]) Try.underlying27 zr4 sz4 by4 rfl rfl (by omega) (by omega) (by omega) ?_
 intro b1 w1 fb1 g1 B1
 have lb1 := B1.lt
 replace G := G.grow g1
 have zg1 := g1.size
 refine S_val (Y_assign rfl) ?_
 refine S_nl rfl rfl ?_
 refine th_n (hK2 _ _ ?_)
 clear hK2 K2
 refine wp_seq_k fun K3 hK3 => ?_
 refine wp_seq_k fun K4 hK4 => ?_
 refine Sb 22 rfl ?_  -- 2
 refine S_val (Y_move rfl) ?_
 refine S_val (Y_len Try.underlying27 rfl) ?_
 refine S_val (Y_move rfl) ?_
 refine S_nl rfl rfl ?_
 refine th_n (hK4 _ _ ?_)
 clear hK4 K4
 refine wp_block ?_
 go_loopw [11] (fun u11 wr => (∃ k : Nat, u11 = .int .i64 k ∧ k ≤ n ∧ Blk wr b1 4 (bools ((listB m n).take k) ++ zeros [.bool false] (n - k)).toArray) ∧ Mod (fun i => i = b1) w1 wr) (fun u11 wr => n - (intOf u11).toNat)  -- L1
 case atStart =>
  refine ⟨?_, Mod.refl _ _⟩
  exact ⟨0, rfl, by omega, by simpa [bools] using B1⟩
 case round =>
  obtain ⟨w2, rfl⟩ : ∃ x : World, x = wr := ⟨_, rfl⟩
  obtain ⟨hrel, g2⟩ := hrel
  clear B1
  replace G := G.abv g2
  have zg2 := g2.size
  obtain ⟨k, rfl, hk, B1⟩ := hrel
  have GL2 := g2
  refine wp_seq_k fun K5 hK5 => ?_
  refine Sb 22 rfl ?_  -- 3
  refine S_val (Y_lss rfl rfl) ?_
  refine S_nl rfl rfl ?_
  refine th_n (hK5 _ _ ?_)
  clear hK5 K5
  refine wp_seq_k fun K6 hK6 => ?_
  refine S_if rfl (fun hb1 => ?_) (fun hb1 => ?_)  -- c1
  · -- c1T
   replace hb1 := nb_tt hb1
   have hk1 : k < n := by omega
   rw [zeros_pos (by omega)] at B1
   refine wp_skip ?_
   refine th_n (hK6 _ _ ?_)
   clear hK6 K6
   refine wp_seq_k fun K7 hK7 => ?_
   refine wp_block ?_
   refine wp_seq_k fun K8 hK8 => ?_
   refine Sb 22 rfl ?_  -- 4
   refine S_val (Y_move rfl) ?_
   refine S_val (Y_assign rfl) ?_
   refine S_nl rfl rfl ?_
   refine th_n (hK8 _ _ ?_)
   clear hK8 K8
   refine Sb 22 rfl ?_  -- 5
   refine S_val (Y_move rfl) ?_
   refine S_val (Y_move rfl) ?_
   refine S_val (Y_move rfl) ?_
   refine S_val (Y_move rfl) ?_
   refine S_call rfl en58 (impl_cellSet_has_c _ _ _ (by assumption)) ?_  -- k1 (impl.cellSet).has
   rintro v w' ⟨rfl, rfl⟩
   refine S_val (Y_index Try.underlying27 sz4 rfl rfl (by first | assumption | omega)) ?_
   refine S_stM (pre := bools ((listB m n).take k)) (old := [.bool false]) (post := zeros [.bool false] (n - k - 1)) (vs := [_]) sz4 rfl rfl rfl rfl (by rw [List.append_assoc]; exact B1) (by simp [bools, listB_len]; omega) rfl ?_
   intro w4 m4 X4
   replace B1 := Blk.eq X4 (listB_snoc hk1)
   clear X4
   replace G := G.abv m4
   replace GL2 := GL2.trn m4
   have zm4 := m4.size
   refine S_nl rfl rfl ?_
   refine ib_n ?_
   refine th_n (hK7 _ _ ?_)
   clear hK7 K7
   refine Sb 22 rfl ?_  -- 6
   refine S_val (Y_inc rfl rfl (by omega)) ?_
   refine S_val (Y_move rfl) ?_
   refine S_nl rfl rfl ?_
   refine th_n ?_
   go_roundw  -- e1 of L1
   case rel =>
    refine ⟨?_, GL2⟩
    exact ⟨k + 1, rfl, by omega, B1⟩
   case measure =>
    exact dec_nat (by omega)
  · -- c1F
   replace hb1 := nb_tf hb1
   refine wp_exit ?_
   refine th_x ?_
   try clear GL2
   refine th_x ?_
   refine ib_e ?_
   refine th_n (hK3 _ _ ?_)
   clear hK6 K6 hK3 K3
   refine wp_seq_k fun K9 hK9 => ?_
   refine Sb 22 rfl ?_  -- 7
   refine S_val (Y_move rfl) ?_
   refine S_val (Y_assign rfl) ?_
   refine S_nl rfl rfl ?_
   refine th_n (hK9 _ _ ?_)
   clear hK9 K9
   refine wp_ret ?_
   refine ret_r1 rfl rfl ?_  -- r1
   have : k = n := by omega
   subst this
   exact ⟨b1, rfl, fb1, Blk.eq B1 (by rw [List.take_of_length_le (by rw [listB_len]; omega)]; simp [zeros]), G⟩
set_option maxHeartbeats 400000 in
set_option maxRecDepth 20000 in
theorem impl_count_c (Pr : Nat → Prop) (A : Option Addr) (bs : List Bool) (n c : Nat) (w : World) (hA : R1 Pr w A (bools bs)) (hn : bs.length = n) (hx : n ≤ 1048576) :
    Calls Try.prog 76 #[.slice A n c] w (Ret fun v w' => v = .int .i64 ((countB bs : Nat) : Int) ∧ Grow w w') := by
 subst hn
 refine enter Try.func76 rfl Try.ntmps76 (L := [_,_,_,_,_,_,_,_,_,_,_,_,_,_,_,_,_]) rfl ?_
 have G := Mod.refl No w
 have hA0 := hA
 refine wp_seq_k fun K1 hK1 => ?_
 refine Sb 17 rfl ?_  -- 0
 refine S_val (Y_assign rfl) ?_
 refine S_nl rfl rfl ?_
 refine th_n (hK1 _ _ ?_)
 clear hK1 K1
 refine wp_seq_k fun K2 hK2 => ?_
 refine Sb 17 rfl ?_  -- 1
 refine S_val (Y_assign rfl) ?_
 refine S_nl rfl rfl ?_
 refine th_n (hK2 _ _ ?_)
 clear hK2 K2
 refine wp_seq_k fun K3 hK3 => ?_
 refine wp_seq_k fun K4 hK4 => ?_
 refine Sb 17 rfl ?_  -- 2
 refine S_val (Y_move rfl) ?_
 refine S_val (Y_len Try.underlying27 rfl) ?_
 refine S_val (Y_move rfl) ?_
 refine S_nl rfl rfl ?_
 refine th_n (hK4 _ _ ?_)
 clear hK4 K4
 refine wp_block ?_
 go_loopw [3, 8] (fun u3 u8 wr => (∃ k : Nat, u8 = .int .i64 k ∧ u3 = .int .i64 ((countB (bs.take k) : Nat) : Int) ∧ k ≤ bs.length) ∧ Mod No w wr) (fun u3 u8 wr => bs.length - (intOf u8).toNat)  -- L1
 case atStart =>
  refine ⟨?_, Mod.refl _ _⟩
  exact ⟨0, rfl, rfl, by omega⟩
 case round =>
  obtain ⟨w1, rfl⟩ : ∃ x : World, x = wr := ⟨_, rfl⟩
  obtain ⟨hrel, g1⟩ := hrel
  replace hA := hA.grow g1
  replace G := G.grow g1
  have zg1 := g1.size
  obtain ⟨k, rfl, rfl, hk⟩ := hrel
  have hcl := countB_le (bs.take k)
  rw [List.length_take] at hcl
  have GL1 := g1
  refine wp_seq_k fun K5 hK5 => ?_
  refine Sb 17 rfl ?_  -- 3
  refine S_val (Y_lss rfl rfl) ?_
  refine S_nl rfl rfl ?_
  refine th_n (hK5 _ _ ?_)
  clear hK5 K5
  refine wp_seq_k fun K6 hK6 => ?_
  refine S_if rfl (fun hb1 => ?_) (fun hb1 => ?_)  -- c1
  · -- c1T
   replace hb1 := nb_tt hb1
   have hk1 : k < bs.length := by omega
   obtain ⟨g1, o1, rfl, hp1, hc1⟩ := hA.bool hk1
   have hcs := countB_succ hk1
   refine wp_skip ?_
   refine th_n (hK6 _ _ ?_)
   clear hK6 K6
   refine wp_seq_k fun K7 hK7 => ?_
   refine wp_block ?_
   refine wp_seq_k fun K8 hK8 => ?_
   refine Sb 17 rfl ?_  -- 4
   refine S_val (Y_index Try.underlying27 sz4 rfl rfl (by first | assumption | omega)) ?_
   refine S_val (Y_load Try.underlying4 rfl rfl (by first | assumption)) ?_  -- l1
   refine S_val (Y_assign rfl) ?_
   refine S_nl rfl rfl ?_
   refine th_n (hK8 _ _ ?_)
   clear hK8 K8
   refine wp_seq_k fun K9 hK9 => ?_
   refine Sb 17 rfl ?_  -- 5
   refine S_val (Y_move rfl) ?_
   refine S_nl rfl rfl ?_
   refine th_n (hK9 _ _ ?_)
   clear hK9 K9
   refine S_if rfl (fun hb2 => ?_) (fun hb2 => ?_)  -- c2
   · -- c2T
    first | with_reducible (replace hb2 := nb_nt hb2) | with_reducible (replace hb2 := nb_tt hb2) | with_reducible (replace hb2 := nb_bt hb2) | skip
    refine Sb 17 rfl ?_  -- 6
    refine S_val (Y_move rfl) ?_
    refine S_val (Y_inc rfl rfl (by omega)) ?_
    refine S_val (Y_assign rfl) ?_
    refine S_nl rfl rfl ?_
    refine ib_n ?_
    refine th_n (hK7 _ _ ?_)
    clear hK7 K7
    refine Sb 17 rfl ?_  -- 7
    refine S_val (Y_inc rfl rfl (by omega)) ?_
    refine S_val (Y_move rfl) ?_
    refine S_nl rfl rfl ?_
    refine th_n ?_
    go_roundw  -- e1 of L1
    case rel =>
     refine ⟨?_, GL1⟩
     exact ⟨k + 1, rfl, by rw [hcs, if_pos hb2], by omega⟩
    case measure =>
     exact dec_nat (by omega)
   · -- c2F
    first | with_reducible (replace hb2 := nb_nf hb2) | with_reducible (replace hb2 := nb_tf hb2) | with_reducible (replace hb2 := nb_bf hb2) | skip
    refine wp_skip ?_
    refine ib_n ?_
    refine th_n (hK7 _ _ ?_)
    clear hK7 K7
    refine Sb 17 rfl ?_  -- 7
    refine S_val (Y_inc rfl rfl (by omega)) ?_
    refine S_val (Y_move rfl) ?_
    refine S_nl rfl rfl ?_
    refine th_n ?_
    go_roundw  -- e2 of L1
    case rel =>
     refine ⟨?_, GL1⟩
     exact ⟨k + 1, rfl, by rw [hcs, if_neg (by simp [hb2])]; rfl, by omega⟩
    case measure =>
     exact dec_nat (by omega)
  · -- c1F
   replace hb1 := nb_tf hb1
   refine wp_exit ?_
   refine th_x ?_
   try clear GL1
   refine th_x ?_
   refine ib_e ?_
   refine th_n (hK3 _ _ ?_)
   clear hK6 K6 hK3 K3
   refine wp_seq_k fun K10 hK10 => ?_
   refine Sb 17 rfl ?_  -- 8
   refine S_val (Y_move rfl) ?_
   refine S_val (Y_assign rfl) ?_
   refine S_nl rfl rfl ?_
   refine th_n (hK10 _ _ ?_)
   clear hK10 K10
   refine wp_ret ?_
   refine ret_r1 rfl rfl ?_  -- r1
   exact ⟨by rw [List.take_of_length_le (by omega)], G⟩
set_option maxHeartbeats 400000 in
set_option maxRecDepth 20000 in
theorem impl_setOf_c (Pr : Nat → Prop) (A : Option Addr) (bs : List Bool) (c : Nat) (w : World) (hA : R1 Pr w A (bools bs)) (hx : bs.length ≤ 64) :
    Calls Try.prog 94 #[.slice A bs.length c] w (Ret fun v w' => ∃ m : Nat, v = .int .u64 (m : Int) ∧ SetOf m bs ∧ Grow w w') := by
 refine enter Try.func94 rfl Try.ntmps94 (L := [_,_,_,_,_,_,_,_,_,_,_,_,_,_,_,_,_,_]) rfl ?_
 have G := Mod.refl No w
 have hA0 := hA
 refine wp_seq_k fun K1 hK1 => ?_
 refine Sb 18 rfl ?_  -- 0
 refine S_val (Y_assign rfl) ?_
 refine S_nl rfl rfl ?_
 refine th_n (hK1 _ _ ?_)
 clear hK1 K1
 refine wp_seq_k fun K2 hK2 => ?_
 refine Sb 18 rfl ?_  -- 1
 refine S_alloc (cs := [_]) zr78 rfl ?_
 intro b1 w1 fb1 g1 B1
 have lb1 := B1.lt
 replace hA := hA.grow g1
 replace G := G.grow g1
 have zg1 := g1.size
 refine S_nl rfl rfl ?_
 refine th_n (hK2 _ _ ?_)
 clear hK2 K2
 refine wp_seq_k fun K3 hK3 => ?_
 refine wp_seq_k fun K4 hK4 => ?_
 refine Sb 18 rfl ?_  -- 2
 refine S_val (Y_move rfl) ?_
 refine S_val (Y_len Try.underlying27 rfl) ?_
 refine S_val (Y_move rfl) ?_
 refine S_nl rfl rfl ?_
 refine th_n (hK4 _ _ ?_)
 clear hK4 K4
 refine wp_block ?_
 go_loopw [8] (fun u8 wr => (∃ (k m : Nat), u8 = .int .i64 k ∧ k ≤ bs.length ∧ Blk wr b1 78 [.int .u64 (m : Int)].toArray ∧ SetOf m (bs.take k)) ∧ Mod (fun i => i = b1) w1 wr) (fun u8 wr => bs.length - (intOf u8).toNat)  -- L1
 case atStart =>
  refine ⟨?_, Mod.refl _ _⟩
  exact ⟨0, 0, rfl, by omega, B1, SetOf.zero⟩
 case round =>
  obtain ⟨w2, rfl⟩ : ∃ x : World, x = wr := ⟨_, rfl⟩
  obtain ⟨hrel, g2⟩ := hrel
  clear B1
  replace G := G.abv g2
  replace hA := hA0.grow G
  have zg2 := g2.size
  obtain ⟨k, m, rfl, hk, B1, hs⟩ := hrel
  have hm := hs.1
  have GL2 := g2
  refine wp_seq_k fun K5 hK5 => ?_
  refine Sb 18 rfl ?_  -- 3
  refine S_val (Y_lss rfl rfl) ?_
  refine S_nl rfl rfl ?_
  refine th_n (hK5 _ _ ?_)
  clear hK5 K5
  refine wp_seq_k fun K6 hK6 => ?_
  refine S_if rfl (fun hb1 => ?_) (fun hb1 => ?_)  -- c1
  · -- c1T
   replace hb1 := nb_tt hb1
   have hk1 : k < bs.length := by omega
   obtain ⟨g1, o1, rfl, hp1, hc1⟩ := hA.bool hk1
   refine wp_skip ?_
   refine th_n (hK6 _ _ ?_)
   clear hK6 K6
   refine wp_seq_k fun K7 hK7 => ?_
   refine wp_block ?_
   refine wp_seq_k fun K8 hK8 => ?_
   refine Sb 18 rfl ?_  -- 4
   refine S_val (Y_move rfl) ?_
   refine S_val (Y_index Try.underlying27 sz4 rfl rfl (by first | assumption | omega)) ?_
   refine S_val (Y_load Try.underlying4 rfl rfl (by first | assumption | exact B1.at (by rfl))) ?_  -- l1
   refine S_val (Y_assign rfl) ?_
   refine S_val (Y_assign rfl) ?_
   refine S_nl rfl rfl ?_
   refine th_n (hK8 _ _ ?_)
   clear hK8 K8
   refine wp_seq_k fun K9 hK9 => ?_
   refine Sb 18 rfl ?_  -- 5
   refine S_val (Y_move rfl) ?_
   refine S_nl rfl rfl ?_
   refine th_n (hK9 _ _ ?_)
   clear hK9 K9
   refine S_if rfl (fun hb2 => ?_) (fun hb2 => ?_)  -- c2
   · -- c2T
    first | with_reducible (replace hb2 := nb_nt hb2) | with_reducible (replace hb2 := nb_tt hb2) | with_reducible (replace hb2 := nb_bt hb2) | skip
    refine Sb 18 rfl ?_  -- 6
    refine S_val (Y_move rfl) ?_
    refine S_call rfl en59 (impl_cellSet_add_c _ _ _ _ (by assumption) (by assumption) (by omega)) ?_  -- k1 (*impl.cellSet).add
    rintro v3 w3 ⟨X3, m3⟩
    replace B1 := X3
    clear X3
    replace G := G.abv m3
    replace GL2 := GL2.trn m3
    replace hA := hA0.grow G
    have zm3 := m3.size
    refine S_nl rfl rfl ?_
    refine ib_n ?_
    refine th_n (hK7 _ _ ?_)
    clear hK7 K7
    refine Sb 18 rfl ?_  -- 7
    refine S_val (Y_inc rfl rfl (by omega)) ?_
    refine S_val (Y_move rfl) ?_
    refine S_nl rfl rfl ?_
    refine th_n ?_
    go_roundw  -- e1 of L1
    case rel =>
     refine ⟨?_, GL2⟩
     exact ⟨k + 1, _, rfl, by omega, B1, hs.yes hk1 (by omega) hb2⟩
    case measure =>
     exact dec_nat (by omega)
   · -- c2F
    first | with_reducible (replace hb2 := nb_nf hb2) | with_reducible (replace hb2 := nb_tf hb2) | with_reducible (replace hb2 := nb_bf hb2) | skip
    refine wp_skip ?_
    refine ib_n ?_
    refine th_n (hK7 _ _ ?_)
    clear hK7 K7
    refine Sb 18 rfl ?_  -- 7
    refine S_val (Y_inc rfl rfl (by omega)) ?_
    refine S_val (Y_move rfl) ?_
    refine S_nl rfl rfl ?_
    refine th_n ?_
    go_roundw  -- e2 of L1
    case rel =>
     refine ⟨?_, GL2⟩
     exact ⟨k + 1, _, rfl, by omega, B1, hs.no hk1 hb2⟩
    case measure =>
     exact dec_nat (by omega)
  · -- c1F
   replace hb1 := nb_tf hb1
   refine wp_exit ?_
   refine th_x ?_
   try clear GL2
   refine th_x ?_
   refine ib_e ?_
   refine th_n (hK3 _ _ ?_)
   clear hK6 K6 hK3 K3
   refine wp_seq_k fun K10 hK10 => ?_
   refine Sb 18 rfl ?_  -- 8
   refine S_val (Y_load Try.underlying78 rfl rfl (B1.at (by rfl))) ?_  -- l2
   refine S_val (Y_assign rfl) ?_
   refine S_nl rfl rfl ?_
   refine th_n (hK10 _ _ ?_)
   clear hK10 K10
   refine wp_ret ?_
   refine ret_r1 rfl rfl ?_  -- r1
   exact ⟨m, rfl, hs.whole (by omega), G⟩
set_option maxHeartbeats 400000 in
set_option maxRecDepth 20000 in
theorem impl_usedSet_c (Pr : Nat → Prop) (A B : Option Addr) (h : LH) (c d : Nat) (w : World) (hA : RC Pr w A h.cells) (hn : h.cells.length ≤ 64) :
    Calls Try.prog 77 #[.agg #[.slice A h.cells.length c, .slice B h.roots.length d]] w (Ret fun v w' => ∃ m : Nat, v = .int .u64 (m : Int) ∧ SetOf m (usedL h.cells) ∧ Grow w w') := by
 refine enter Try.func77 rfl Try.ntmps77 (L := [_,_,_,_,_,_,_,_,_,_,_,_,_,_,_,_,_,_,_,_]) rfl ?_
 have G := Mod.refl No w
 have hA0 := hA
 refine wp_seq_k fun K1 hK1 => ?_
 refine Sb 20 rfl ?_  -- 0
 refine S_box (cs := [_, _]) rfl rfl ?_
 intro b1 w1 fb1 g1 B1
 have lb1 := B1.lt
 replace hA := hA.grow g1
 replace G := G.grow g1
 have zg1 := g1.size
 refine S_val (Y_assign rfl) ?_
 refine S_nl rfl rfl ?_
 refine th_n (hK1 _ _ ?_)
 clear hK1 K1
 refine wp_seq_k fun K2 hK2 => ?_
 refine Sb 20 rfl ?_  -- 1
 refine S_alloc (cs := [_]) zr78 rfl ?_
 intro b2 w2 fb2 g2 B2
 have lb2 := B2.lt
 replace hA := hA.grow g2
 replace G := G.grow g2
 replace B1 := B1.grow g2
 have zg2 := g2.size
 refine S_nl rfl rfl ?_
 refine th_n (hK2 _ _ ?_)
 clear hK2 K2
 refine wp_seq_k fun K3 hK3 => ?_
 refine wp_seq_k fun K4 hK4 => ?_
 refine Sb 20 rfl ?_  -- 2
 refine S_val (Y_field Try.underlying32 rfl fz32_0 (by decide) rfl) ?_
 refine S_val (Y_load Try.underlying30 rfl rfl (B1.at (by rfl))) ?_  -- l1
 refine S_val (Y_len Try.underlying30 rfl) ?_
 refine S_val (Y_move rfl) ?_
 refine S_nl rfl rfl ?_
 refine th_n (hK4 _ _ ?_)
 clear hK4 K4
 refine wp_block ?_
 go_loopw [9] (fun u9 wr => (∃ (k m : Nat), u9 = .int .i64 k ∧ k ≤ h.cells.length ∧ Blk wr b2 78 [.int .u64 (m : Int)].toArray ∧ SetOf m ((usedL h.cells).take k)) ∧ Mod (fun i => i = b2) w2 wr) (fun u9 wr => h.cells.length - (intOf u9).toNat)  -- L1
 case atStart =>
  refine ⟨?_, Mod.refl _ _⟩
  exact ⟨0, 0, rfl, by omega, B2, SetOf.zero⟩
 case round =>
  obtain ⟨w3, rfl⟩ : ∃ x : World, x = wr := ⟨_, rfl⟩
  obtain ⟨hrel, g3⟩ := hrel
  clear B2
  replace G := G.abv g3
  replace hA := hA0.grow G
  replace B1 := B1.md g3
  have zg3 := g3.size
  obtain ⟨k, m, rfl, hk, B2, hs⟩ := hrel
  have hm := hs.1
  have GL3 := g3
  refine wp_seq_k fun K5 hK5 => ?_
  refine Sb 20 rfl ?_  -- 3
  refine S_val (Y_lss rfl rfl) ?_
  refine S_nl rfl rfl ?_
  refine th_n (hK5 _ _ ?_)
  clear hK5 K5
  refine wp_seq_k fun K6 hK6 => ?_
  refine S_if rfl (fun hb1 => ?_) (fun hb1 => ?_)  -- c1
  · -- c1T
   replace hb1 := nb_tt hb1
   have hk1 : k < h.cells.length := by omega
   have hk3 : k < (usedL h.cells).length := by simp [usedL, hk1]
   obtain ⟨g2, o2, E2, d2, rfl, hp2, cc20, _⟩ := hA0.cell hk1
   have cc2 := cc20.grow G
   refine wp_skip ?_
   refine th_n (hK6 _ _ ?_)
   clear hK6 K6
   refine wp_seq_k fun K7 hK7 => ?_
   refine wp_block ?_
   refine wp_seq_k fun K8 hK8 => ?_
   refine Sb 20 rfl ?_  -- 4
   refine S_val (Y_move rfl) ?_
   refine S_val (Y_index Try.underlying30 sz63 rfl rfl (by first | assumption | omega)) ?_
   refine S_val (Y_loadS Try.underlying63 rfl sz63 rfl (by first | assumption | exact B1.row (by rfl) | exact B2.row (by rfl))) ?_  -- l2
   refine S_alloc (cs := [_, _, _]) zr63 rfl ?_
   intro b4 w4 fb4 g4 B4
   have lb4 := B4.lt
   replace hA := hA.grow g4
   replace cc2 := cc2.grow g4
   replace G := G.grow g4
   replace GL3 := GL3.grow g4
   replace B1 := B1.grow g4
   replace B2 := B2.grow g4
   have zg4 := g4.size
   refine S_val (Y_assign rfl) ?_
   refine S_stM (pre := []) (old := [_, _, _]) (post := []) (vs := [_, _, _]) sz63 rfl rfl rfl (by first | rfl | assumption) B4 rfl rfl ?_
   intro w5 m5 X5
   replace B4 := Blk.eq (ys := [_, _, _]) X5 rfl
   clear X5
   replace G := G.abv m5
   first | replace GL3 := GL3.abv m5 | clear GL3
   replace hA := hA0.grow G
   replace cc2 := cc20.grow G
   replace B1 := B1.md m5
   replace B2 := B2.md m5
   have zm5 := m5.size
   refine S_nl rfl rfl ?_
   refine th_n (hK8 _ _ ?_)
   clear hK8 K8
   refine wp_seq_k fun K9 hK9 => ?_
   refine Sb 20 rfl ?_  -- 5
   refine S_val (Y_field Try.underlying63 rfl fz63_0 (by decide) rfl) ?_
   refine S_val (Y_load Try.underlying4 rfl rfl (B4.at (by rfl))) ?_  -- l3
   refine S_nl rfl rfl ?_
   refine th_n (hK9 _ _ ?_)
   clear hK9 K9
   refine S_if rfl (fun hb2 => ?_) (fun hb2 => ?_)  -- c2
   · -- c2T
    first | with_reducible (replace hb2 := nb_nt hb2) | with_reducible (replace hb2 := nb_tt hb2) | with_reducible (replace hb2 := nb_bt hb2) | skip
    refine Sb 20 rfl ?_  -- 6
    refine S_val (Y_move rfl) ?_
    refine S_call rfl en59 (impl_cellSet_add_c _ _ _ _ (by assumption) (by assumption) (by omega)) ?_  -- k1 (*impl.cellSet).add
    rintro v6 w6 ⟨X6, m6⟩
    replace B2 := X6
    clear X6
    replace G := G.abv m6
    replace GL3 := GL3.trn m6
    replace hA := hA0.grow G
    replace cc2 := cc20.grow G
    replace B1 := B1.md m6
    replace B4 := B4.md m6
    have zm6 := m6.size
    refine S_nl rfl rfl ?_
    refine ib_n ?_
    refine th_n (hK7 _ _ ?_)
    clear hK7 K7
    refine Sb 20 rfl ?_  -- 7
    refine S_val (Y_inc rfl rfl (by omega)) ?_
    refine S_val (Y_move rfl) ?_
    refine S_nl rfl rfl ?_
    refine th_n ?_
    go_roundw  -- e1 of L1
    case rel =>
     refine ⟨?_, GL3⟩
     exact ⟨k + 1, _, rfl, by omega, B2, hs.yes hk3 (by omega) (by simpa [usedL] using hb2)⟩
    case measure =>
     exact dec_nat (by omega)
   · -- c2F
    first | with_reducible (replace hb2 := nb_nf hb2) | with_reducible (replace hb2 := nb_tf hb2) | with_reducible (replace hb2 := nb_bf hb2) | skip
    refine wp_skip ?_
    refine ib_n ?_
    refine th_n (hK7 _ _ ?_)
    clear hK7 K7
    refine Sb 20 rfl ?_  -- 7
    refine S_val (Y_inc rfl rfl (by omega)) ?_
    refine S_val (Y_move rfl) ?_
    refine S_nl rfl rfl ?_
    refine th_n ?_
    go_roundw  -- e2 of L1
    case rel =>
     refine ⟨?_, GL3⟩
     exact ⟨k + 1, _, rfl, by omega, B2, hs.no hk3 (by simpa [usedL] using hb2)⟩
    case measure =>
     exact dec_nat (by omega)
  · -- c1F
   replace hb1 := nb_tf hb1
   refine wp_exit ?_
   refine th_x ?_
   try clear GL3
   refine th_x ?_
   refine ib_e ?_
   refine th_n (hK3 _ _ ?_)
   clear hK6 K6 hK3 K3
   refine wp_seq_k fun K10 hK10 => ?_
   refine Sb 20 rfl ?_  -- 8
   refine S_val (Y_load Try.underlying78 rfl rfl (B2.at (by rfl))) ?_  -- l4
   refine S_val (Y_assign rfl) ?_
   refine S_nl rfl rfl ?_
   refine th_n (hK10 _ _ ?_)
   clear hK10 K10
   refine wp_ret ?_
   refine ret_r1 rfl rfl ?_  -- r1
   exact ⟨m, rfl, hs.whole (by simpa [usedL] using (by omega : h.cells.length ≤ k)), G⟩
end
/-! Use -/
section
open Go
theorem orderL_ord {cs : List LC} {fr : List Int} (hl : Leads cs fr nn) : ∀ (f i : Nat) (s : List Int), i + f = cs.length → Ord cs fr nn i s → Ord cs fr nn (bfs cs nn f i s).length (bfs cs nn f i s)
  | 0, i, s, hi, h => by
    have hb := (h.bnd hl).len
    have h2 := h.le
    unfold bfs
    have e : i = s.length := by omega
    rw [← e]
    exact h
  | f + 1, i, s, hi, h => by
    by_cases hlt : i < s.length
    · obtain ⟨n, hn, hnN, hg⟩ := bnd_at (h.bnd hl) hlt
      rw [bfs_step hg]
      exact orderL_ord hl f (i + 1) _ (by omega) (h.next hg)
    · rw [bfs_end (by omega)]
      have e : i = s.length := by have := h.le; omega
      rw [← e]
      exact h
theorem orderL_mem {cs : List LC} {fr : List Int} (hl : Leads cs fr nn) {n : Nat} : (n : Int) ∈ orderL cs fr nn ↔ Rch cs fr nn n := by
  have h := orderL_ord hl cs.length 0 (meet nn [] fr) (by omega) (Ord.start _ _ _)
  exact ⟨h.sound n, fun hn => h.all (Nat.le_refl _) hn⟩
/-- Every reference is -1 or leads to a used cell. -/
def LeadsU (cs : List LC) (fr : List Int) : Prop := (∀ x ∈ fr, leadsB cs x = true) ∧ ∀ m, ∀ x ∈ refsOf cs m, leadsB cs x = true
theorem Valid.leadsU {h : LH} (v : Valid h) : LeadsU h.cells h.roots := by
  refine ⟨v.roots, fun m x hx => ?_⟩
  by_cases hm : m < h.cells.length
  · rw [refsOf_at hm] at hx
    exact v.refs hm x hx
  · simp [refsOf, List.getElem?_eq_none (by omega : h.cells.length ≤ m)] at hx
theorem leadsB_used {cs : List LC} {n : Nat} (h : leadsB cs (n : Int) = true) : usedAt cs n = true := by
  unfold leadsB at h
  have : ¬ ((n : Int) = -1) := by omega
  simpa [this] using h
theorem used_bit {cs : List LC} {m n : Nat} (hm : SetOf m (usedL cs)) (h : usedAt cs n = true) : m.testBit n = true := by
  rw [hm.2]
  unfold usedAt at h
  split at h
  · rename_i c hc
    simp [usedL, hc, h]
  · cases h
/-- To go over all references is to go over those that lead to used cells. -/
theorem rch_used {cs : List LC} {fr : List Int} {m : Nat} (hl : LeadsU cs fr) (hm : SetOf m (usedL cs)) {n : Nat} : Rch cs fr (hasB m) n ↔ Rch cs fr nn n := by
  constructor
  · intro h
    induction h with
    | root h1 h2 => exact .root h1 (by simp [nn])
    | step _ h1 h2 ih => exact .step ih h1 (by simp [nn])
  · intro h
    induction h with
    | root h1 h2 => exact .root h1 (by rw [hasB_nat]; exact used_bit hm (leadsB_used (hl.1 _ h1)))
    | step _ h1 h2 ih => exact .step ih h1 (by rw [hasB_nat]; exact used_bit hm (leadsB_used (hl.2 _ _ h1)))
/-- The set as the program has it, the marks as the reference has them. -/
theorem list_eq {cs : List LC} {fr : List Int} {m u N : Nat} (hl : Leads cs fr nn) (hu : LeadsU cs fr) (hm : SetOf u (usedL cs)) (hr : ∀ n, m.testBit n = true ↔ Rch cs fr (hasB u) n) : listB m N = mB N (orderL cs fr nn) := by
  unfold listB mB
  apply List.map_congr_left
  intro i _
  rw [Bool.eq_iff_iff, decide_eq_true_eq, hr, rch_used hu hm, orderL_mem hl]
end
end Go.Proofs.Ytikgflhepclfgac
