/-
  What each kind of operation yields: one lemma a kind, over any program.
  Conditions: none.
-/
import Derived.Laws.BitsLemmas
import Derived.Laws.Tables
import Derived.Test.YtjmfdmndchoplaaMem
namespace Go.Proofs.Ytjmfdmndchoplaa
open Go Go.RowKit

def sz (P : Program) (e : TypeId) : Option Nat := (P.info? e).map (·.size)
def zr (P : Program) (e : TypeId) : Option Value := (P.info? e).bind (·.zero)
def aggT : TypeDesc → Bool
  | .struct _ | .array _ _ => true
  | _ => false

section
variable {P : Program} {F : Fr} {w : World}

theorem sz_run {e : TypeId} {n : Nat} (h : sz P e = some n) (w : World) : (sizeOf e).run P w = .ok n w := by
  unfold sz at h
  obtain ⟨i, hi, he⟩ := Option.map_eq_some_iff.1 h
  simp [sizeOf, typeInfo, hi, he]
theorem zr_run {e : TypeId} {z : Value} (h : zr P e = some z) (w : World) : (zeroValue e).run P w = .ok z w := by
  unfold zr at h
  obtain ⟨i, hi, he⟩ := Option.bind_eq_some_iff.1 h
  simp [zeroValue, typeInfo, hi, he]
theorem agg_run {t : TypeId} {d : TypeDesc} (h : P.underlying t = some d) (w : World) : (isAgg t).run P w = .ok (aggT d) w := by
  cases d <;> simp [isAgg, run_underlying h, aggT]

theorem Y_move {x : Operand} {v : Value} (h : ev F x = some v) : Yl P F (.move x) v w w := fun D _ _ _ _ _ => by
  simp [execOp, ev_eval (D := D) h]
theorem Y_assign {x : Operand} {v : Value} (h : ev F x = some v) : Yl P F (.assign x) v w w := fun D _ _ _ _ _ => by
  simp [execOp, ev_eval (D := D) h]
theorem Y_nil {x : Operand} {a : Addr} (h : ev F x = some (.pointer (some a))) : Yl P F (.nilCheck x) (.pointer (some a)) w w := fun D _ _ _ _ _ => by
  simp [execOp, ev_eval (D := D) h]
theorem Y_pickT {c a b : Operand} {v : Value} (hc : ev F c = some (.bool true)) (h : ev F a = some v) : Yl P F (.pick c a b) v w w := fun D _ _ _ _ _ => by
  simp [execOp, ev_eval (D := D) hc, ev_eval (D := D) h, asBool]
theorem Y_pickF {c a b : Operand} {v : Value} (hc : ev F c = some (.bool false)) (h : ev F b = some v) : Yl P F (.pick c a b) v w w := fun D _ _ _ _ _ => by
  simp [execOp, ev_eval (D := D) hc, ev_eval (D := D) h, asBool]
theorem Y_box {e : TypeId} {x : Operand} {v : Value} (h : ev F x = some v) : Yl P F (.box e x) (.pointer (some ⟨w.heap.size, 0, none⟩)) w (w.alloc (.cells v.cells e)) := fun D _ _ _ _ _ => by
  simp [execOp, ev_eval (D := D) h, Instr.box, newVar, newRow]
theorem Y_alloc {e : TypeId} {z : Value} (hz : zr P e = some z) : Yl P F (.alloc e) (.pointer (some ⟨w.heap.size, 0, none⟩)) w (w.alloc (.cells z.cells e)) := fun _ _ _ _ _ _ => by
  simp [execOp, Instr.alloc, zr_run hz, newVar, newRow]
theorem Y_makeFunc {f : Fn} {fs xs : List Operand} {us vs : List Value} (h1 : evs F fs = some us) (h2 : evs F xs = some vs) : Yl P F (.makeFunc f fs.toArray xs.toArray) (.func f us.toArray vs.toArray) w w := fun D _ _ _ _ _ => by
  simp [execOp, Instr.makeFunc, evs_eval (D := D) h1, evs_eval (D := D) h2]
theorem Y_load {t : TypeId} {x : Operand} {a : Addr} {d : TypeDesc} {v : Value} (ht : P.underlying t = some d) (hd : aggT d = false) (hx : ev F x = some (.pointer (some a))) (hc : w.cell? a = some v) : Yl P F (.load t x) v w w :=
  fun D _ _ _ _ _ => by
    simp [execOp, ev_eval (D := D) hx, Instr.loadAt, Instr.sureAddr, loadVar, agg_run ht, hd, hc]
/-- A struct is loaded: its cells. -/
theorem Y_loadS {t : TypeId} {x : Operand} {g o n : Nat} {d : TypeDesc} {cs : List Value} (ht : P.underlying t = some d) (hd : aggT d = true) (hs : sz P t = some n) (hx : ev F x = some (.pointer (some ⟨g, o, none⟩)))
    (hc : CellsAt w g o cs) (hn : cs.length = n := by rfl) : Yl P F (.load t x) (.agg cs.toArray) w w :=
  fun D _ _ _ _ _ => by
    subst hn
    have h := run_loadCells_list (P := P) w ⟨g, o, none⟩ cs (fun j u hu => by rw [Addr.add_lit]; exact hc j u hu)
    simp [execOp, ev_eval (D := D) hx, Instr.loadAt, Instr.sureAddr, loadVar, agg_run ht, hd, sz_run hs, h]
theorem Y_field {s : TypeId} {x : Operand} {k : Nat} {g o : Nat} {fs : Array Field} {f : Field} {n : Nat} (hu : P.underlying s = some (.struct fs)) (hf : fs[k]? = some f) (hn : sz P f.type = some n) (h0 : n ≠ 0)
    (hx : ev F x = some (.pointer (some ⟨g, o, none⟩))) : Yl P F (.fieldAddr s x k) (.pointer (some ⟨g, o + f.offset, none⟩)) w w :=
  fun D _ _ _ _ _ => by
    simp [execOp, ev_eval (D := D) hx, Instr.fieldAt, Instr.sureAddr, run_underlying hu, hf, fieldPlace, sz_run hn, h0, Addr.add_lit]
theorem Y_index {t e : TypeId} {x y : Operand} {g o n c : Nat} {k : IntKind} {i s : Nat} (hu : P.underlying t = some (.slice e)) (hs : sz P e = some s) (hx : ev F x = some (.slice (some ⟨g, o, none⟩) n c)) (hy : ev F y = some (.int k (i : Int))) (hi : i < n) :
    Yl P F (.indexAddr t x y) (.pointer (some ⟨g, o + i * s, none⟩)) w w :=
  fun D _ _ _ _ _ => by
    have h2 : (i : Int) < n := by omega
    simp [execOp, ev_eval (D := D) hx, ev_eval (D := D) hy, Instr.indexAt, asIntOf, run_underlying hu, sz_run hs, hi, Addr.add_lit]
theorem Y_len {t : TypeId} {e : TypeId} {x : Operand} {A : Option Addr} {n c : Nat} (hu : P.underlying t = some (.slice e)) (hx : ev F x = some (.slice A n c)) : Yl P F (.call ⟨.builtin .len, #[x], #[t]⟩) (.int .i64 (n : Int)) w w :=
  fun D _ _ _ _ _ => by
    simp [execOp, resolve, invoke, builtin, ev_eval (D := D) hx, Builtin.len_, run_underlying hu, goInt]
theorem Y_extract {x : Operand} {vs : Array Value} {i : Nat} {v : Value} (hx : ev F x = some (.tuple vs)) (hi : vs[i]? = some v) : Yl P F (.extract x i) v w w := fun D _ _ _ _ _ => by
  simp [execOp, ev_eval (D := D) hx, Instr.extract, hi]

/-! ### numbers -/
theorem Y_not {t : TypeId} {x : Operand} {b : Bool} (hx : ev F x = some (.bool b)) : Yl P F (.unOp .not t x) (.bool (!b)) w w := fun D _ _ _ _ _ => by
  simp [execOp, ev_eval (D := D) hx, Op.unary]
section cmp
variable {t t' : TypeId} {x y : Operand} {k : IntKind} {a b : Int}
theorem Y_lss (hx : ev F x = some (.int k a)) (hy : ev F y = some (.int k b)) : Yl P F (.binOp .lss t x y t') (.bool (decide (a < b))) w w := fun D _ _ _ _ _ => by
  simp [execOp, ev_eval (D := D) hx, ev_eval (D := D) hy, eqGuard_lss, binOp_lss]
theorem Y_leq (hx : ev F x = some (.int k a)) (hy : ev F y = some (.int k b)) : Yl P F (.binOp .leq t x y t') (.bool (decide (a ≤ b))) w w := fun D _ _ _ _ _ => by
  simp [execOp, ev_eval (D := D) hx, ev_eval (D := D) hy, eqGuard_leq, binOp_leq]
theorem Y_gtr (hx : ev F x = some (.int k a)) (hy : ev F y = some (.int k b)) : Yl P F (.binOp .gtr t x y t') (.bool (decide (b < a))) w w := fun D _ _ _ _ _ => by
  simp [execOp, ev_eval (D := D) hx, ev_eval (D := D) hy, eqGuard_gtr, binOp_gtr]
theorem Y_geq (hx : ev F x = some (.int k a)) (hy : ev F y = some (.int k b)) : Yl P F (.binOp .geq t x y t') (.bool (decide (b ≤ a))) w w := fun D _ _ _ _ _ => by
  simp [execOp, ev_eval (D := D) hx, ev_eval (D := D) hy, eqGuard_geq, binOp_geq]
theorem Y_eql (hx : ev F x = some (.int k a)) (hy : ev F y = some (.int k b)) : Yl P F (.binOp .eql t x y t') (.bool (decide (a = b))) w w := fun D _ _ _ _ _ => by
  simp [execOp, ev_eval (D := D) hx, ev_eval (D := D) hy, eqGuard_at_int, binOp_eql]
  rfl
theorem Y_neq (hx : ev F x = some (.int k a)) (hy : ev F y = some (.int k b)) : Yl P F (.binOp .neq t x y t') (.bool (!decide (a = b))) w w := fun D _ _ _ _ _ => by
  simp [execOp, ev_eval (D := D) hx, ev_eval (D := D) hy, eqGuard_at_int, binOp_neq]
  rfl
theorem run_equalIn_bool (n : Nat) {t : TypeId} (hu : P.underlying t = some .bool) (a b : Bool) : (Op.equalIn (n + 1) t (.bool a) (.bool b)).run P w = .ok (decide (a = b)) w := by
  cases a <;> cases b <;> simp [Op.equalIn, run_underlying hu]
theorem run_equal_bool {t : TypeId} (hu : P.underlying t = some .bool) (a b : Bool) : (Op.equal t (.bool a) (.bool b)).run P w = .ok (decide (a = b)) w := run_equalIn_bool 9999 hu a b
theorem Y_eqb {a b : Bool} (hu : P.underlying t = some .bool) (hx : ev F x = some (.bool a)) (hy : ev F y = some (.bool b)) : Yl P F (.binOp .eql t x y t') (.bool (decide (a = b))) w w := fun D _ _ _ _ _ => by
  simp [execOp, ev_eval (D := D) hx, ev_eval (D := D) hy, eqGuard_at_bool, binOp, run_equal_bool hu]
theorem Y_neb {a b : Bool} (hu : P.underlying t = some .bool) (hx : ev F x = some (.bool a)) (hy : ev F y = some (.bool b)) : Yl P F (.binOp .neq t x y t') (.bool (!decide (a = b))) w w := fun D _ _ _ _ _ => by
  simp [execOp, ev_eval (D := D) hx, ev_eval (D := D) hy, eqGuard_at_bool, binOp, run_equal_bool hu]
theorem Y_add {c : Int} (hx : ev F x = some (.int .i64 a)) (hy : ev F y = some (.int .i64 b)) (hc : a + b = c) (h1 : -9223372036854775808 ≤ c) (h2 : c ≤ 9223372036854775807) : Yl P F (.binOp .add t x y t') (.int .i64 c) w w := fun D _ _ _ _ _ => by
  subst hc
  simp [execOp, ev_eval (D := D) hx, ev_eval (D := D) hy, eqGuard_add, binOp_add, Op.intArith]
  rw [IntKind.wrap_i64]
  omega
theorem Y_sub {c : Int} (hx : ev F x = some (.int .i64 a)) (hy : ev F y = some (.int .i64 b)) (hc : a - b = c) (h1 : -9223372036854775808 ≤ c) (h2 : c ≤ 9223372036854775807) : Yl P F (.binOp .sub t x y t') (.int .i64 c) w w := fun D _ _ _ _ _ => by
  subst hc
  simp [execOp, ev_eval (D := D) hx, ev_eval (D := D) hy, eqGuard_sub, binOp_sub, Op.intArith]
  rw [IntKind.wrap_i64]
  omega
theorem Y_inc {k : Nat} (hx : ev F x = some (.int .i64 (k : Int))) (hy : ev F y = some (.int .i64 1)) (h : k + 1 ≤ 9223372036854775807) : Yl P F (.binOp .add t x y t') (.int .i64 ((k + 1 : Nat) : Int)) w w :=
  Y_add hx hy (by omega) (by omega) (by omega)
end cmp
end

/-! ### operations that make memory or write it -/
section
variable {P : Program} {ops : Array Oper} {Q : Exit → Act → World → Prop} {rest : List Oper} {F : Fr} {D : List Deferred} {w : World}
  {d : Tmp} {ty : TypeId} {pos : String} {af : Array Edge} {e t : TypeId} {x y : Operand}
theorem S_box {v : Value} {cs : List Value} (h : ev F x = some v) (hc : v.cells = cs.toArray)
    (k : ∀ b w', w.heap.size ≤ b → Grow w w' → Blk w' b e cs.toArray → wpList P ops Q rest ⟨(F.put d (.pointer (some ⟨b, 0, none⟩))).list.toArray, D⟩ w') :
    wpList P ops Q (⟨some d, .box e x, ty, pos, af, none⟩ :: rest) ⟨F.list.toArray, D⟩ w :=
  S_val (Y_box h) (k _ _ (Nat.le_refl _) (grow_alloc _ _) (by rw [← hc]; exact Blk.new _ _ _))
theorem S_alloc {z : Value} {cs : List Value} (hz : zr P e = some z) (hc : z.cells = cs.toArray)
    (k : ∀ b w', w.heap.size ≤ b → Grow w w' → Blk w' b e cs.toArray → wpList P ops Q rest ⟨(F.put d (.pointer (some ⟨b, 0, none⟩))).list.toArray, D⟩ w') :
    wpList P ops Q (⟨some d, .alloc e, ty, pos, af, none⟩ :: rest) ⟨F.list.toArray, D⟩ w :=
  S_val (Y_alloc hz) (k _ _ (Nat.le_refl _) (grow_alloc _ _) (by rw [← hc]; exact Blk.new _ _ _))
/-- A store of one cell into a block that is known whole. -/
theorem Ys_B1 {b i : Nat} {cs : Array Value} {v : Value} (hs : sz P t = some 1) (hx : ev F x = some (.pointer (some ⟨b, i, none⟩))) (hy : ev F y = some v) (h1 : v.oneCell' = true) (hB : Blk w b e cs) (hi : i < cs.size) :
    Ys P F (.store t x y) w (w.setCell ⟨b, i, none⟩ v) := fun D _ _ _ _ _ => by
  have hc : v.cells = #[v] := by cases v <;> simp_all [Value.cells, Value.oneCell']
  have hcell : w.cell? ⟨b, i, none⟩ = some cs[i] := hB.at (by simp [hi])
  have hst := run_store P w ⟨b, i, none⟩ v .plain h1
  simp only [hcell, hB.fr i] at hst
  simp [execOp, ev_eval (D := D) hx, ev_eval (D := D) hy, Instr.storeAt, Instr.sureAddr, storeVar, hc, sz_run hs, storeCells, Addr.add_lit, hst]
theorem S_stB1 {b i : Nat} {cs : Array Value} {v : Value} (hs : sz P t = some 1) (hx : ev F x = some (.pointer (some ⟨b, i, none⟩))) (hy : ev F y = some v) (h1 : v.oneCell' = true) (hB : Blk w b e cs) (hi : i < cs.size)
    (k : ∀ w', Mod (· = b) w w' → Blk w' b e (cs.setIfInBounds i v) → wpList P ops Q rest ⟨F.list.toArray, D⟩ w') :
    wpList P ops Q (⟨none, .store t x y, ty, pos, af, none⟩ :: rest) ⟨F.list.toArray, D⟩ w :=
  S_st (Ys_B1 hs hx hy h1 hB hi) (k _ (mod_setCell w ⟨b, i, none⟩ v) (hB.set i v))
/-- A struct is stored over a whole block. -/
theorem Ys_BS {b n : Nat} {cs vs : Array Value} (hs : sz P t = some n) (hx : ev F x = some (.pointer (some ⟨b, 0, none⟩))) (hy : ev F y = some (.agg vs)) (hB : Blk w b e cs) (h1 : vs.all (·.oneCell') = true) (hn : cs.size = n) (hn' : vs.size = n) :
    Ys P F (.store t x y) w (w.setRow b vs) := fun D _ _ _ _ _ => by
  subst hn
  have hi : (P.info? t).map (·.size) = some vs.size := by rw [hn']; exact hs
  have hst := run_storeVar_row (P := P) w b e t cs vs hB hi hn'.symm h1
  simp [execOp, ev_eval (D := D) hx, ev_eval (D := D) hy, Instr.storeAt, Instr.sureAddr, hst]
theorem mod_setRow (w : World) (b : Nat) (vs : Array Value) : Mod (· = b) w (w.setRow b vs) :=
  ⟨rfl, rfl, rfl, by simp, fun k _ hk => setRow_other w b k _ hk⟩
theorem Blk.setRow {w : World} {b : Nat} {e : TypeId} {cs : Array Value} (h : Blk w b e cs) (vs : Array Value) : Blk (w.setRow b vs) b e vs := setRow_heap w b cs vs e _ h
def oneL : List Value → Bool
  | [] => true
  | v :: r => v.oneCell' && oneL r
theorem oneL_mem : ∀ {l : List Value}, oneL l = true → ∀ u ∈ l, u.oneCell' = true
  | [], _, u, hu => by cases hu
  | v :: r, h, u, hu => by
    simp only [oneL, Bool.and_eq_true] at h
    rcases List.mem_cons.1 hu with rfl | hr
    · exact h.1
    · exact oneL_mem h.2 u hr
theorem S_stBS {b n : Nat} {cs : Array Value} {vs : List Value} (hs : sz P t = some n) (hx : ev F x = some (.pointer (some ⟨b, 0, none⟩))) (hy : ev F y = some (.agg vs.toArray)) (hB : Blk w b e cs) (h1 : oneL vs = true)
    (k : ∀ w', Mod (· = b) w w' → Blk w' b e vs.toArray → wpList P ops Q rest ⟨F.list.toArray, D⟩ w') (hn : cs.size = n := by rfl) (hn' : vs.length = n := by rfl) :
    wpList P ops Q (⟨none, .store t x y, ty, pos, af, none⟩ :: rest) ⟨F.list.toArray, D⟩ w :=
  S_st (Ys_BS hs hx hy hB (by simpa [Array.all_eq_true_iff_forall_mem] using oneL_mem h1) hn (by simpa using hn')) (k _ (mod_setRow w b vs.toArray) (hB.setRow vs.toArray))
end
section
variable {P : Program} {ops : Array Oper} {Q : Exit → Act → World → Prop} {S : World → Prop} {fuel : Nat} {lst : List Bool} {F : Fr} {D : List Deferred} {w : World} {i : Nat}
  {d : Tmp} {ty : TypeId} {pos : String} {af : Array Edge} {e t : TypeId} {x y : Operand}
theorem E_box {v : Value} {cs : List Value} (hi : ops[i]? = some ⟨some d, .box e x, ty, pos, af, none⟩) (h : ev F x = some v) (hc : v.cells = cs.toArray)
    (k : ∀ b w', w.heap.size ≤ b → Grow w w' → Blk w' b e cs.toArray → S w' ∧ wpAnyH P .any ops Q S fuel (lst.set i true).toArray ⟨(F.put d (.pointer (some ⟨b, 0, none⟩))).list.toArray, D⟩ w') : dOp P ops Q S fuel lst ⟨F.list.toArray, D⟩ w i :=
  have hk := k _ _ (Nat.le_refl _) (grow_alloc w (.cells v.cells e)) (by rw [← hc]; exact Blk.new _ _ _)
  E_val hi (Y_box h) hk.1 hk.2
theorem E_alloc {z : Value} {cs : List Value} (hi : ops[i]? = some ⟨some d, .alloc e, ty, pos, af, none⟩) (hz : zr P e = some z) (hc : z.cells = cs.toArray)
    (k : ∀ b w', w.heap.size ≤ b → Grow w w' → Blk w' b e cs.toArray → S w' ∧ wpAnyH P .any ops Q S fuel (lst.set i true).toArray ⟨(F.put d (.pointer (some ⟨b, 0, none⟩))).list.toArray, D⟩ w') : dOp P ops Q S fuel lst ⟨F.list.toArray, D⟩ w i :=
  have hk := k _ _ (Nat.le_refl _) (grow_alloc w (.cells z.cells e)) (by rw [← hc]; exact Blk.new _ _ _)
  E_val hi (Y_alloc hz) hk.1 hk.2
end
end Go.Proofs.Ytjmfdmndchoplaa
