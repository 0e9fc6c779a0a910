/-
  More operations: makes, stores in the middle of a block, results that lie in memory.
  Conditions: none.
-/
import Derived.Test.YtjmfdmndchoplaaOps
import Derived.Laws.OwnMore
namespace Go.Proofs.Ytjmfdmndchoplaa
open Go Go.RowKit

/-- n elements of the cells z, one behind the other. -/
def zeros (z : List Value) : Nat → List Value
  | 0 => []
  | n + 1 => z ++ zeros z n
theorem zeros_len (z : List Value) : ∀ n, (zeros z n).length = n * z.length
  | 0 => by simp [zeros]
  | n + 1 => by rw [zeros, List.length_append, zeros_len z n, Nat.add_mul]; omega
theorem zeros_get (z : List Value) (hz : 0 < z.length) : ∀ (n j : Nat), j < n * z.length → (zeros z n)[j]? = z[j % z.length]?
  | 0, j, h => by simp at h
  | n + 1, j, h => by
    rw [zeros]
    by_cases hj : j < z.length
    · rw [List.getElem?_append_left hj, Nat.mod_eq_of_lt hj]
    · have h1 : j - z.length < n * z.length := by rw [Nat.add_mul] at h; omega
      rw [List.getElem?_append_right (by omega), zeros_get z hz n _ h1, ← Nat.mod_eq_sub_mod (by omega)]
theorem made_zeros (z : List Value) (hz : 0 < z.length) (n : Nat) : madeCells z.toArray (n * z.length) = (zeros z n).toArray := by
  apply Array.ext'
  apply List.ext_getElem?
  intro j
  by_cases hj : j < n * z.length
  · have hm : j % z.length < z.length := Nat.mod_lt _ hz
    simp only [zeros_get z hz n j hj]
    simp [madeCells, hj, hm]
  · rw [List.getElem?_eq_none (by simp [size_madeCells]; omega), List.getElem?_eq_none (by simp [zeros_len]; omega)]
def byt (P : Program) (e : TypeId) : Option Nat := (P.info? e).map (·.bytes)
section
variable {P : Program} {ops : Array Oper} {Q : Exit → Act → World → Prop} {rest : List Oper} {F : Fr} {D : List Deferred} {w : World}
  {d : Tmp} {ty : TypeId} {pos : String} {af : Array Edge} {e t : TypeId} {x y : Operand}
theorem Y_make {n : Nat} {zv : Value} {z : List Value} {by_ : Nat} (hu : P.underlying t = some (.slice e)) (hz : zr P e = some zv) (hzc : zv.cells = z.toArray) (hs : sz P e = some z.length) (hb : byt P e = some by_) (h0 : 0 < z.length)
    {l : Nat} (hx : ev F x = some (.int .i64 (l : Int))) (hy : ev F y = some (.int .i64 (n : Int))) (hl : l ≤ n) (hn : n * by_ ≤ 281474976710656) (hn2 : n ≤ 9223372036854775807) :
    Yl P F (.makeSlice t x y) (.slice (some ⟨w.heap.size, 0, none⟩) l n) w (w.alloc (.cells (zeros z n).toArray e)) := fun D _ _ _ _ _ => by
  unfold zr at hz
  unfold sz at hs
  unfold byt at hb
  obtain ⟨i, hi, hze⟩ := Option.bind_eq_some_iff.1 hz
  rw [hi] at hs hb
  have hs' : i.size = z.length := by simpa using hs
  have hb' : i.bytes = by_ := by simpa using hb
  have hbn : (i.bytes : Int) * (n : Int) ≤ 281474976710656 := by
    rw [hb']
    have : ((by_ * n : Nat) : Int) ≤ 281474976710656 := by rw [Nat.mul_comm]; omega
    rwa [Int.natCast_mul] at this
  have hr := run_make (P := P) w t e i zv hu hi hze .i64 .i64 l n (by omega) (by omega) hbn (by omega)
  simp only [Int.toNat_natCast, hzc, hs', made_zeros z h0] at hr
  simp [execOp, ev_eval (D := D) hx, ev_eval (D := D) hy, hr]
theorem S_make {n l : Nat} {zv : Value} {z : List Value} {by_ : Nat} (hu : P.underlying t = some (.slice e)) (hz : zr P e = some zv) (hs : sz P e = some z.length) (hb : byt P e = some by_) (hx : ev F x = some (.int .i64 (l : Int))) (hy : ev F y = some (.int .i64 (n : Int))) (hl : l ≤ n) (hn : n * by_ ≤ 281474976710656) (hn2 : n ≤ 9223372036854775807)
    (k : ∀ b w', w.heap.size ≤ b → Grow w w' → Blk w' b e (zeros z n).toArray → wpList P ops Q rest ⟨(F.put d (.slice (some ⟨b, 0, none⟩) l n)).list.toArray, D⟩ w') (hzc : zv.cells = z.toArray := by rfl) (h0 : 0 < z.length := by decide) :
    wpList P ops Q (⟨some d, .makeSlice t x y, ty, pos, af, none⟩ :: rest) ⟨F.list.toArray, D⟩ w :=
  S_val (Y_make hu hz hzc hs hb h0 hx hy hl hn hn2) (k _ _ (Nat.le_refl _) (grow_alloc _ _) (Blk.new _ _ _))
/-- A store of a value's cells in the middle of a block. -/
theorem Ys_M {b o : Nat} {pre old post vs : List Value} {v : Value} (hs : sz P t = some vs.length) (hx : ev F x = some (.pointer (some ⟨b, o, none⟩))) (hy : ev F y = some v) (hv : v.cells = vs.toArray) (h1 : oneL vs = true)
    (hB : Blk w b e (pre ++ old ++ post).toArray) (ho : pre.length = o) (hl : old.length = vs.length) : Ys P F (.store t x y) w (w.setRow b (pre ++ vs ++ post).toArray) := fun D _ _ _ _ _ => by
  subst ho
  have hst := run_storeCells_at P b pre.length e vs 0 (pre ++ old ++ post).toArray w hB (by simp; omega) (oneL_mem h1)
  simp only [Nat.add_zero] at hst
  have e1 : List.take pre.length (pre ++ old ++ post) = pre := by rw [List.append_assoc, List.take_left]
  have e2 : List.drop (pre.length + vs.length) (pre ++ old ++ post) = post := by
    rw [← hl, ← List.length_append, List.drop_left]
  rw [e1, e2] at hst
  simp [execOp, ev_eval (D := D) hx, ev_eval (D := D) hy, Instr.storeAt, Instr.sureAddr, storeVar, hv, sz_run hs, hst]
theorem S_stM {b o : Nat} {pre old post vs : List Value} {v : Value} (hs : sz P t = some vs.length) (hx : ev F x = some (.pointer (some ⟨b, o, none⟩))) (hy : ev F y = some v) (hv : v.cells = vs.toArray) (h1 : oneL vs = true)
    (hB : Blk w b e (pre ++ old ++ post).toArray) (ho : pre.length = o) (hl : old.length = vs.length)
    (k : ∀ w', Mod (fun i => i = b) w w' → Blk w' b e (pre ++ vs ++ post).toArray → wpList P ops Q rest ⟨F.list.toArray, D⟩ w') :
    wpList P ops Q (⟨none, .store t x y, ty, pos, af, none⟩ :: rest) ⟨F.list.toArray, D⟩ w :=
  S_st (Ys_M hs hx hy hv h1 hB ho hl) (k _ (mod_setRow w b _) (hB.setRow _))
end
section
variable {P : Program} {ops : Array Oper} {Q : Exit → Act → World → Prop} {S : World → Prop} {fuel : Nat} {lst : List Bool} {F : Fr} {D : List Deferred} {w : World} {i : Nat}
  {ty : TypeId} {pos : String} {af : Array Edge} {e t : TypeId} {x y : Operand}
theorem E_stM {b o : Nat} {pre old post vs : List Value} {v : Value} (hi : ops[i]? = some ⟨none, .store t x y, ty, pos, af, none⟩) (hs : sz P t = some vs.length) (hx : ev F x = some (.pointer (some ⟨b, o, none⟩))) (hy : ev F y = some v) (hv : v.cells = vs.toArray) (h1 : oneL vs = true)
    (hB : Blk w b e (pre ++ old ++ post).toArray) (ho : pre.length = o) (hl : old.length = vs.length)
    (k : ∀ w', Mod (fun i => i = b) w w' → Blk w' b e (pre ++ vs ++ post).toArray → S w' ∧ wpAnyH P .any ops Q S fuel (lst.set i true).toArray ⟨F.list.toArray, D⟩ w') : dOp P ops Q S fuel lst ⟨F.list.toArray, D⟩ w i :=
  have hk := k _ (mod_setRow w b _) (hB.setRow _)
  E_st hi (Ys_M hs hx hy hv h1 hB ho hl) hk.1 hk.2
end
section
variable {P : Program} {w : World}
theorem cell_run {t : TypeId} {b : Nat} {d : TypeDesc} {cs : List Value} {n : Nat} (ht : P.underlying t = some d) (hd : aggT d = true) (hs : sz P t = some n) (hc : CellsAt w b 0 cs) (hn : cs.length = n) :
    (loadVar t ⟨b, 0, none⟩).run P w = .ok (.agg cs.toArray) w := by
  subst hn
  have h := run_loadCells_list (P := P) w ⟨b, 0, none⟩ cs (fun j u hu => by rw [Addr.add_lit]; exact hc j u hu)
  simp [loadVar, agg_run ht, hd, sz_run hs, h]
theorem ret_rc {fn : Func} {R : Value → World → Prop} {L : List Value} {tm : Tmp} {t : TypeId} {b n : Nat} {d : TypeDesc} {cs : List Value} (ht : P.underlying t = some d) (hd : aggT d = true) (hs : sz P t = some n)
    (hr : fn.results = #[.cell tm t]) (hv : L[tm]? = some (.pointer (some ⟨b, 0, none⟩))) (hc : CellsAt w b 0 cs) (h : R (.agg cs.toArray) w) (hn : cs.length = n := by rfl) : bodyPost P fn (Ret R) .ret ⟨L.toArray, []⟩ w := by
  refine ⟨rfl, .agg cs.toArray, ?_, _, rfl, h⟩
  have hrun := cell_run ht hd hs hc hn
  simp [results, hr, Array.getD_eq_getD_getElem?, hv, asAddr, hrun]
theorem ret_rct {fn : Func} {R : Value → World → Prop} {L : List Value} {tm t2 : Tmp} {t : TypeId} {b n : Nat} {d : TypeDesc} {cs : List Value} {v2 : Value} (ht : P.underlying t = some d) (hd : aggT d = true) (hs : sz P t = some n)
    (hr : fn.results = #[.cell tm t, .tmp t2]) (hv : L[tm]? = some (.pointer (some ⟨b, 0, none⟩))) (hv2 : L[t2]? = some v2) (hc : CellsAt w b 0 cs) (h : R (.tuple #[.agg cs.toArray, v2]) w) (hn : cs.length = n := by rfl) :
    bodyPost P fn (Ret R) .ret ⟨L.toArray, []⟩ w := by
  refine ⟨rfl, .tuple #[.agg cs.toArray, v2], ?_, _, rfl, h⟩
  have hrun := cell_run ht hd hs hc hn
  simp [results, hr, Array.getD_eq_getD_getElem?, hv, hv2, asAddr, hrun]
end
/-! ### slices of the call's own -/
/-- A slice that was just made: its block is known whole. -/
theorem R1.of_blk {Pr : Nat → Prop} {w : World} {b : Nat} {e : TypeId} {us post : List Value} (h : Blk w b e (us ++ post).toArray) (hp : Pr b) : R1 Pr w (some ⟨b, 0, none⟩) us := fun k u hu => by
  refine ⟨b, 0, rfl, hp, ?_⟩
  have hl : k < us.length := (List.getElem?_eq_some_iff.1 hu).1
  rw [Nat.zero_add, Nat.mul_one]
  exact h.at (by rw [List.getElem?_toArray, List.getElem?_append_left hl]; exact hu)
theorem Blk.eq {w : World} {b : Nat} {e : TypeId} {xs ys : List Value} (h : Blk w b e xs.toArray) (he : xs = ys) : Blk w b e ys.toArray := by rw [← he]; exact h
theorem CellsAt.of_blk {w : World} {b : Nat} {e : TypeId} {pre us post : List Value} {o : Nat} (h : Blk w b e (pre ++ us ++ post).toArray) (ho : pre.length = o) : CellsAt w b o us := fun j u hu => by
  subst ho
  have hl : j < us.length := (List.getElem?_eq_some_iff.1 hu).1
  refine h.at ?_
  rw [List.getElem?_toArray, List.append_assoc, List.getElem?_append_right (by omega), List.getElem?_append_left (by omega)]
  rw [Nat.add_sub_cancel_left]
  exact hu
end Go.Proofs.Ytjmfdmndchoplaa
