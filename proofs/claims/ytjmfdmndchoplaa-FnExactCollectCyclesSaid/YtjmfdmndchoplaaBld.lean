/-
  More operations: values that are built of parts, slices that are written out, parts of slices, an element of an array, remainders.
  Conditions: none.
-/
import Derived.Test.YtjmfdmndchoplaaApp
namespace Go.Proofs.Ytjmfdmndchoplaa
open Go Go.RowKit

/-- Bytes. -/
def u8s (xs : List Int) : List Value := xs.map (Value.int .u8)
theorem u8s_get {xs : List Int} {k : Nat} {x : Int} (h : xs[k]? = some x) : (u8s xs)[k]? = some (.int .u8 x) := by simp [u8s, h]
/-- The parts are laid into the cells. -/
def fillL (place : Nat → Option (Nat × Nat)) : List Value → List (Nat × List Value) → Option (List Value)
  | cs, [] => some cs
  | cs, (i, vs) :: r => match place i with
    | none => none
    | some (off, size) => bif Nat.beq vs.length size && Nat.ble (off + vs.length) cs.length then fillL place (cs.take off ++ vs ++ cs.drop (off + vs.length)) r else none
def cellsP : List (Nat × Value) → List (Nat × List Value)
  | [] => []
  | (i, v) :: r => (i, v.cells.toList) :: cellsP r
theorem fold_set (off : Nat) : ∀ (l : List Value) (k : Nat) (a : Array Value), off + k + l.length ≤ a.size →
    ((l.zipIdx k).foldl (fun (a : Array Value) (p : Value × Nat) => a.setIfInBounds (off + p.2) p.1) a) = (a.toList.take (off + k) ++ l ++ a.toList.drop (off + k + l.length)).toArray
  | [], k, a, _ => by simp
  | x :: l, k, a, hk => by
    simp only [List.length_cons] at hk
    simp only [List.zipIdx_cons, List.foldl_cons]
    rw [fold_set off l (k + 1) _ (by simp only [Array.size_setIfInBounds]; omega)]
    apply Array.ext'
    simp only [Array.toList_setIfInBounds, List.length_cons]
    rw [List.drop_set_of_lt (by omega), show off + (k + 1) = off + k + 1 by omega, List.take_succ_eq_append_getElem (by simp; omega), List.take_set]
    simp only [List.getElem_set_self]
    rw [List.set_eq_of_length_le (by simp; omega)]
    simp [show off + k + 1 + l.length = off + k + (l.length + 1) by omega]
theorem fill_of {place : Nat → Option (Nat × Nat)} : ∀ {vs : List (Nat × Value)} {cs r : List Value}, fillL place cs (cellsP vs) = some r → Instr.fill place cs.toArray vs = some r.toArray
  | [], cs, r, h => by
    simp only [cellsP, fillL, Option.some.injEq] at h
    subst h
    rfl
  | (i, v) :: vs, cs, r, h => by
    simp only [cellsP, fillL] at h
    cases hp : place i with
    | none => rw [hp] at h; cases h
    | some os =>
      obtain ⟨off, size⟩ := os
      rw [hp] at h
      dsimp only at h
      cases hb : (Nat.beq v.cells.toList.length size && Nat.ble (off + v.cells.toList.length) cs.length) with
      | false => rw [hb] at h; cases h
      | true =>
        rw [hb] at h
        simp only [Bool.and_eq_true] at hb
        have h1 := Nat.eq_of_beq_eq_true hb.1
        have h2 := Nat.le_of_ble_eq_true hb.2
        rw [Array.length_toList] at h1 h2
        have h3 := fill_of (vs := vs) h
        unfold Instr.fill
        rw [hp]
        have hc : ¬ ((decide (v.cells.size ≠ size) || decide (off + v.cells.size > cs.toArray.size)) = true) := by
          simp
          omega
        simp only
        rw [if_neg hc]
        have e : (v.cells.zipIdx.foldl (fun (a : Array Value) (p : Value × Nat) => a.setIfInBounds (off + p.2) p.1) cs.toArray) = (cs.take off ++ v.cells.toList ++ cs.drop (off + v.cells.toList.length)).toArray := by
          have := fold_set off v.cells.toList 0 cs.toArray (by simp; omega)
          rw [Nat.add_zero] at this
          rw [← this]
          rw [← Array.foldl_toList, Array.toList_zipIdx]
        exact (congrArg (fun z => Instr.fill place z vs) e).trans h3
/-- Where the fields of a struct, or the elements of an array, lie. -/
def plc (P : Program) (t : TypeId) : Option (List (Nat × Nat)) := match P.underlying t with
  | some (.array n e) => (P.info? e).map fun ie => (List.range n).map fun i => (i * ie.size, ie.size)
  | some (.struct fields) => fields.toList.mapM (fun f => (P.info? f.type).map fun i => (f.offset, i.size))
  | _ => none
theorem fillL_mono {p q : Nat → Option (Nat × Nat)} (h : ∀ i x, p i = some x → q i = some x) : ∀ {vs : List (Nat × List Value)} {cs r : List Value}, fillL p cs vs = some r → fillL q cs vs = some r
  | [], cs, r, e => e
  | (i, v) :: vs, cs, r, e => by
    unfold fillL at e ⊢
    cases hp : p i with
    | none => rw [hp] at e; cases e
    | some os =>
      obtain ⟨off, size⟩ := os
      rw [hp] at e
      rw [h i _ hp]
      dsimp only at e ⊢
      cases hb : (Nat.beq v.length size && Nat.ble (off + v.length) cs.length) with
      | false => rw [hb] at e; cases e
      | true =>
        rw [hb] at e
        exact fillL_mono h e
section
variable {P : Program} {F : Fr} {w : World} {t e : TypeId}
theorem Y_build {parts : List (Nat × Operand)} {vs : List (Nat × Value)} {z : Value} {pl : List (Nat × Nat)} {cs : List Value} (hz : zr P t = some z) (hp : plc P t = some pl) (he : evp F parts = some vs)
    (hf : fillL (fun i => pl[i]?) z.cells.toList (cellsP vs) = some cs) : Yl P F (.build t parts.toArray) (.agg cs.toArray) w w := fun D _ _ _ _ _ => by
  have hb : P.built t vs = some cs.toArray := by
    unfold zr at hz
    unfold plc at hp
    unfold Program.built
    obtain ⟨it, hit, hze⟩ := Option.bind_eq_some_iff.1 hz
    rw [hit]
    cases hu : P.underlying t with
    | none => rw [hu] at hp; cases hp
    | some d =>
      rw [hu] at hp
      cases d <;> try (cases hp; done)
      case array n e =>
        obtain ⟨ie, hie, hpl⟩ := Option.map_eq_some_iff.1 hp
        simp only [hze, hie]
        have := fill_of (place := fun i => some (i * ie.size, ie.size)) (fillL_mono (q := fun i => some (i * ie.size, ie.size)) (fun i x hx => by
          subst hpl
          simp only [List.getElem?_map] at hx
          obtain ⟨j, hj, hjx⟩ := Option.map_eq_some_iff.1 hx
          obtain ⟨hl, hv⟩ := List.getElem?_eq_some_iff.1 hj
          simp only [List.getElem_range] at hv
          subst hv
          rw [← hjx]) hf)
        rw [Array.toArray_toList] at this
        exact this
      case struct fields =>
        simp only [hze]
        have hp' : fields.toList.mapM (fun f => (P.info? f.type).map fun i => (f.offset, i.size)) = some pl := hp
        rw [hp']
        have := fill_of (place := fun i => pl.toArray[i]?) (vs := vs) (cs := z.cells.toList) (r := cs) (by simpa using hf)
        rw [Array.toArray_toList] at this
        exact this
  have hr := run_build (P := P) w t vs.toArray cs.toArray (by simpa using hb)
  have hm := evp_eval (D := D) he
  simp only [execOp]
  rw [show (parts.toArray.map fun x => (x.fst, (Act.mk F.list.toArray D).eval x.snd)) = vs.toArray by rw [← hm]; simp]
  simp [hr]
/-- A slice that is written out. -/
theorem Y_bsN {len s : Nat} {parts : List (Nat × Operand)} {vs : List (Nat × Value)} {zv : Value} {cs : List Value} (ht : P.underlying t = some (.slice e)) (hz : zr P e = some zv) (hs : sz P e = some s) (he : evp F parts = some vs)
    (hf : fillL (fun i => some (i * s, s)) (zeros zv.cells.toList len) (cellsP vs) = some cs) (hzs : zv.cells.size = s) (h0 : 0 < s) (h1 : 0 < len) (h9 : len * s ≤ 1000) :
    Yl P F (.buildSlice t len parts.toArray) (.slice (some ⟨w.heap.size, 0, none⟩) len len) w (w.alloc (.cells cs.toArray e)) := fun D _ _ _ _ _ => by
  have hm := evp_eval (D := D) he
  have a1 : ¬ (2 ^ 24 < len * s) := by omega
  have a2 : ¬ (len * s = 0) := by
    have := Nat.mul_pos h1 h0
    omega
  have hfill := fill_of hf
  have hzl : zv.cells.toList.length = s := by simpa using hzs
  have hmade := made_zeros zv.cells.toList (by omega) len
  rw [hzl, Array.toArray_toList] at hmade
  unfold madeCells at hmade
  simp only [execOp]
  rw [show (parts.toArray.map fun x => (x.fst, (Act.mk F.list.toArray D).eval x.snd)) = vs.toArray by rw [← hm]; simp]
  simp [Instr.buildSlice, run_underlying ht, sz_run hs, zr_run hz, a1, a2, newRow]
  have a3 : ¬ (len = 0 ∨ s = 0) := by omega
  have hmade' : Array.map (fun x => zv.cells[x % zv.cells.size]!) (Array.range (len * s)) = (zeros zv.cells.toList len).toArray := hmade
  first
    | rw [hmade', hfill]
    | (simp only [hmade', hfill])
  try simp
/-- An element of an array that is no variable. -/
theorem Y_elem {n k s : Nat} {q : IntKind} {d : TypeDesc} {x y : Operand} {cs vs : List Value} (hu : P.underlying t = some (.array n e)) (hd : P.underlying e = some d) (ha : aggT d = true) (hs : sz P e = some s) (hx : ev F x = some (.agg cs.toArray)) (hy : ev F y = some (.int q (k : Int)))
    (hk : k < n) (hc : (cs.drop (k * s)).take s = vs) : Yl P F (.index t x y) (.agg vs.toArray) w w := fun D _ _ _ _ _ => by
  subst hc
  simp [execOp, ev_eval (D := D) hx, ev_eval (D := D) hy, Instr.index, asIntOf, run_underlying hu, sz_run hs, hk, part, agg_run hd, ha]
/-- A part of a struct that is no variable. -/
theorem Y_part {k : Nat} {d : TypeDesc} {x : Operand} {fs : Array Field} {f : Field} {cs : List Value} {v : Value} (hu : P.underlying t = some (.struct fs)) (hf : fs[k]? = some f) (hd : P.underlying f.type = some d) (ha : aggT d = false) (hx : ev F x = some (.agg cs.toArray)) (hv : cs[f.offset]? = some v) :
    Yl P F (.field t x k) v w w := fun D _ _ _ _ _ => by
  simp [execOp, ev_eval (D := D) hx, Instr.field, run_underlying hu, hf, part, agg_run hd, ha, asAgg, hv]
end
section
variable {P : Program} {F : Fr} {w : World} {t t' : TypeId} {x y : Operand} {a b : Int}
theorem Y_rem {c : Int} (hx : ev F x = some (.int .i64 a)) (hy : ev F y = some (.int .i64 b)) (h0 : 0 ≤ a) (hb : 0 < b) (hc : a % b = c) : Yl P F (.binOp .rem t x y t') (.int .i64 c) w w := fun D _ _ _ _ _ => by
  subst hc
  have : ¬ b = 0 := by omega
  simp [execOp, ev_eval (D := D) hx, ev_eval (D := D) hy, eqGuard_rem, binOp_rem, Op.intDiv, this]
  exact Int.tmod_eq_emod_of_nonneg h0
theorem Y_quo {c : Int} (hx : ev F x = some (.int .i64 a)) (hy : ev F y = some (.int .i64 b)) (h0 : 0 ≤ a) (ha : a ≤ 9223372036854775807) (hb : 0 < b) (hc : a / b = c) : Yl P F (.binOp .quo t x y t') (.int .i64 c) w w := fun D _ _ _ _ _ => by
  subst hc
  have h1 : ¬ b = 0 := by omega
  have h2 : 0 ≤ a / b := Int.ediv_nonneg h0 (by omega)
  have h3 : a / b ≤ a := Int.ediv_le_self b h0
  simp [execOp, ev_eval (D := D) hx, ev_eval (D := D) hy, eqGuard_quo, binOp_quo, Op.intDiv, h1]
  rw [Int.tdiv_eq_ediv_of_nonneg h0, IntKind.wrap_i64]
  omega
theorem Y_mul {c : Int} (hx : ev F x = some (.int .i64 a)) (hy : ev F y = some (.int .i64 b)) (hc : a * b = c) (h1 : -9223372036854775808 ≤ c) (h2 : c ≤ 9223372036854775807) : Yl P F (.binOp .mul t x y t') (.int .i64 c) w w := fun D _ _ _ _ _ => by
  subst hc
  simp [execOp, ev_eval (D := D) hx, ev_eval (D := D) hy, eqGuard_mul, binOp_mul, Op.intArith]
  rw [IntKind.wrap_i64]
  omega
end
section
variable {P : Program} {ops : Array Oper} {Q : Exit → Act → World → Prop} {S : World → Prop} {rest : List Oper} {fuel : Nat} {lst : List Bool} {F : Fr} {D : List Deferred} {w : World}
  {d : Tmp} {ty : TypeId} {pos : String} {af : Array Edge} {e t : TypeId} {x y y2 : Operand} {zv : Value} {s n cap i : Nat} {A : Option Addr} {Pr : Nat → Prop} {us : List Value}
theorem S_bsN {len : Nat} {parts : List (Nat × Operand)} {vs : List (Nat × Value)} {cs : List Value} (ht : P.underlying t = some (.slice e)) (hz : zr P e = some zv) (hs : sz P e = some s) (he : evp F parts = some vs)
    (hf : fillL (fun i => some (i * s, s)) (zeros zv.cells.toList len) (cellsP vs) = some cs)
    (k : ∀ b w', w.heap.size ≤ b → Grow w w' → Blk w' b e cs.toArray → wpList P ops Q rest ⟨(F.put d (.slice (some ⟨b, 0, none⟩) len len)).list.toArray, D⟩ w') (hzs : zv.cells.size = s := by rfl) (h0 : 0 < s := by decide) (h1 : 0 < len := by decide) (h9 : len * s ≤ 1000 := by decide) :
    wpList P ops Q (⟨some d, .buildSlice t len parts.toArray, ty, pos, af, none⟩ :: rest) ⟨F.list.toArray, D⟩ w :=
  S_val (Y_bsN ht hz hs he hf hzs h0 h1 h9) (k _ _ (Nat.le_refl _) (grow_alloc _ _) (Blk.new _ _ _))
theorem E_bsN {len : Nat} {parts : List (Nat × Operand)} {vs : List (Nat × Value)} {cs : List Value} (hi : ops[i]? = some ⟨some d, .buildSlice t len parts.toArray, ty, pos, af, none⟩) (ht : P.underlying t = some (.slice e)) (hz : zr P e = some zv) (hs : sz P e = some s) (he : evp F parts = some vs)
    (hf : fillL (fun i => some (i * s, s)) (zeros zv.cells.toList len) (cellsP vs) = some cs)
    (k : ∀ b w', w.heap.size ≤ b → Grow w w' → Blk w' b e cs.toArray → S w' ∧ wpAnyH P .any ops Q S fuel (lst.set i true).toArray ⟨(F.put d (.slice (some ⟨b, 0, none⟩) len len)).list.toArray, D⟩ w') (hzs : zv.cells.size = s := by rfl) (h0 : 0 < s := by decide) (h1 : 0 < len := by decide) (h9 : len * s ≤ 1000 := by decide) :
    dOp P ops Q S fuel lst ⟨F.list.toArray, D⟩ w i := by
  have h := k _ _ (Nat.le_refl _) (grow_alloc _ _) (Blk.new w e cs.toArray)
  exact E_val hi (Y_bsN ht hz hs he hf hzs h0 h1 h9) h.1 h.2
/-- A slice from i on. -/
theorem Y_sliceL {j : Nat} {q : IntKind} (ht : P.underlying t = some (.slice e)) (hs : sz P e = some s) (hx : ev F x = some (.slice A n cap)) (hy : ev F y = some (.int q (j : Int))) (hj : j ≤ n) :
    Yl P F (.slice t x (some y) none none) (sliced A j n cap s) w w := fun D _ _ _ _ _ => by
  have he : P.elem t = e := by simp [Program.elem, ht]
  have h := run_slice_l (P := P) (w := w) t A n cap (by rw [he]; exact ht) q (j : Int) (by omega) (by omega)
  have h2 := run_sliceAt_slice (P := P) (w := w) t (.slice A n cap) (some (.int q (j : Int))) none none (by rw [he]; exact ht)
  rw [he, sz_run hs] at h
  simp [execOp, ev_eval (D := D) hx, ev_eval (D := D) hy, h2, h, Result.andThen]
theorem Y_sliceLH {j k : Nat} {q q2 : IntKind} (ht : P.underlying t = some (.slice e)) (hs : sz P e = some s) (hx : ev F x = some (.slice A n cap)) (hy : ev F y = some (.int q (j : Int))) (hy2 : ev F y2 = some (.int q2 (k : Int))) (hj : j ≤ k) (hk : k ≤ cap) :
    Yl P F (.slice t x (some y) (some y2) none) (sliced A j k cap s) w w := fun D _ _ _ _ _ => by
  have he : P.elem t = e := by simp [Program.elem, ht]
  have h := run_slice_lh (P := P) (w := w) t A n cap (by rw [he]; exact ht) q q2 (j : Int) (k : Int) (by omega) (by omega) (by omega)
  have h2 := run_sliceAt_slice (P := P) (w := w) t (.slice A n cap) (some (.int q (j : Int))) (some (.int q2 (k : Int))) none (by rw [he]; exact ht)
  rw [he, sz_run hs] at h
  simp [execOp, ev_eval (D := D) hx, ev_eval (D := D) hy, ev_eval (D := D) hy2, h2, h, Result.andThen]
theorem R1.part {j k : Nat} (h : R1 Pr w A us) (hk : k ≤ cap) (hj : j ≤ k) : ∃ A', sliced A j k cap 1 = .slice A' (k - j) (cap - j) ∧ R1 Pr w A' ((us.take k).drop j) := by
  unfold sliced
  refine ⟨_, rfl, fun i u hu => ?_⟩
  have hl := (List.getElem?_eq_some_iff.1 hu).1
  simp only [List.length_drop, List.length_take] at hl
  rw [List.getElem?_drop, List.getElem?_take, if_pos (by omega)] at hu
  obtain ⟨g, o, rfl, hp, hc⟩ := h _ u hu
  by_cases hcj : cap - 0 = j
  · omega
  · rw [if_neg (by omega)]
    refine ⟨g, o + j * 1, by simp [Addr.add_lit], hp, ?_⟩
    rw [show o + j * 1 + i * 1 = o + (j + i) * 1 by omega]
    exact hc
end
end Go.Proofs.Ytjmfdmndchoplaa
