/-
  A law's arguments, opened: what the row's reading of a heap, a list of numbers, of flags, of bytes, of instructions gives.
  Conditions: none.
-/
import Derived.Test.YtjmfdmndchoplaaCmd
import Derived.ProofKit
import Derived.Deep.Slices
import Derived.Deep.Fields
import Derived.Deep.Grids
import Derived.ChangeSame
import Derived.Lib.SmallJoins
import Derived.Below
import Derived.Carry
namespace Go.Proofs.Ytjmfdmndchoplaa
open Go Go.ChangeShapes Go.WideShapes Go.ChangeAt Go.RowKit Go.Deep Go.Joins

section
variable {H : Type} {enc : TypeId × Value → H} {P : Program} {w : World} {base : Nat} {spare : Nat → Bool} {held : Bool}
theorem plain_of_cell {w : World} {a : Addr} {v : Value} (h : w.cell? a = some v) : ∃ g o, a = ⟨g, o, none⟩ := by
  obtain ⟨g, o, s⟩ := a
  have hs := World.cell?_spot h
  simp only at hs
  subst hs
  exact ⟨g, o, rfl⟩
theorem open_r1 {t e : TypeId} {fuel : Nat} {v : Value} {x : DataW H × List MemPlace} (ht : P.underlying t = some (.slice e)) (he : P.underlying e = some (.int .i64)) (hc : P.cellsOf e = 1)
    (h : DataW.trod enc P w base spare held fuel t [v] = some x) : ∃ (A : Option Addr) (xs : List Int) (c : Nat), v = .slice A xs.length c ∧ R1 (fun _ => True) w A (ints xs) ∧ xs.length ≤ 9223372036854775807 ∧ xs.length ≤ c := by
  rcases open_ints ht he hc h with ⟨hcs, _⟩ | ⟨a, len, cap, zs, hcs, _, hl, hm, hz, _, hcell, _⟩
  · simp only [List.cons.injEq, and_true] at hcs
    subst hcs
    exact ⟨none, [], 0, rfl, R1.nil _ _ _, by simp, by simp⟩
  · simp only [List.cons.injEq, and_true] at hcs
    subst hcs
    have hlz : len ≤ zs.length := by
      rw [hz]
      split
      · exact hl
      · exact Nat.le_refl _
    have hlen : (zs.take len).length = len := by rw [List.length_take]; omega
    refine ⟨some a, zs.take len, cap, by rw [hlen], fun k u hu => ?_, by rw [hlen]; unfold maxLen at hm; omega, by rw [hlen]; exact hl⟩
    have hk : k < len := by
      have := (List.getElem?_eq_some_iff.1 hu).1
      rw [ints_len, hlen] at this
      exact this
    obtain ⟨g, o, rfl⟩ : ∃ g o, a = ⟨g, o, none⟩ := by
      have h0 := hcell 0 (by omega)
      rw [show a.add 0 = a by simp [Addr.add]] at h0
      exact plain_of_cell h0
    refine ⟨g, o, rfl, trivial, ?_⟩
    have hck := hcell k (by omega)
    rw [Addr.add_lit] at hck
    rw [Nat.mul_one, hck]
    have hu' : (ints (zs.take len))[k]? = some (.int .i64 (zs.getD k 0)) := by
      unfold ints
      rw [List.getElem?_map, List.getElem?_take, if_pos hk, List.getElem?_eq_getElem (show k < zs.length by omega)]
      simp [List.getD, List.getElem?_eq_getElem (show k < zs.length by omega)]
    rw [hu'] at hu
    exact hu
theorem list_of {α : Type} {n : Nat} {p : Nat → α → Prop} (h : ∀ i, i < n → ∃ x, p i x) : ∃ l : List α, l.length = n ∧ ∀ i x, l[i]? = some x → p i x := by
  induction n with
  | zero => exact ⟨[], rfl, fun i x hx => by simp at hx⟩
  | succ n ih =>
    obtain ⟨l, hl, hp⟩ := ih (fun i hi => h i (by omega))
    obtain ⟨x, hx⟩ := h n (by omega)
    refine ⟨l ++ [x], by simp [hl], fun i y hy => ?_⟩
    by_cases hi : i < l.length
    · rw [List.getElem?_append_left hi] at hy
      exact hp i y hy
    · have hlt := (List.getElem?_eq_some_iff.1 hy).1
      simp only [List.length_append, List.length_cons, List.length_nil] at hlt
      have e : i = n := by omega
      subst e
      rw [List.getElem?_append_right (by omega)] at hy
      simp [hl] at hy
      rw [← hy]
      exact hx
theorem open_rc {t e tb ti ts : TypeId} {fuel : Nat} {v : Value} {x : DataW H × List MemPlace} {f0 f1 f2 : Field} (ht : P.underlying t = some (.slice e)) (he : P.underlying e = some (.struct #[f0, f1, f2])) (hone : oneCellFields P #[f0, f1, f2] = true) (hC : P.cellsOf e = 3)
    (e0 : f0.type = tb) (e1 : f1.type = ti) (e2 : f2.type = ts) (h0 : P.underlying tb = some .bool) (h1 : P.underlying ti = some (.int .i64)) (h2 : P.underlying ts = some (.slice ti)) (h3 : P.cellsOf ti = 1)
    (h : DataW.trod enc P w base spare held fuel t [v] = some x) : ∃ (A : Option Addr) (cs : List LC) (c : Nat), v = .slice A cs.length c ∧ RC (fun _ => True) w A cs ∧ cs.length ≤ 9223372036854775807 ∧ ∀ y ∈ cs, y.refs.length ≤ 9223372036854775807 := by
  subst e0 e1 e2
  rcases open_slice ht h with ⟨hcs, _⟩ | ⟨a, len, cap, m, n, D, Pl, hcs, _, hl, hm, hmm, _, hi⟩
  · simp only [List.cons.injEq, and_true] at hcs
    subst hcs
    exact ⟨none, [], 0, rfl, fun k c hc => by simp at hc, by simp, fun y hy => by simp at hy⟩
  · simp only [List.cons.injEq, and_true] at hcs
    subst hcs
    have hlm : len ≤ m := by
      rw [hmm]
      split
      · exact hl
      · exact Nat.le_refl _
    by_cases hl0 : len = 0
    · subst hl0
      exact ⟨some a, [], cap, rfl, fun k c hc => by simp at hc, by simp, fun y hy => by simp at hy⟩
    obtain ⟨ag, ao, rfl⟩ : ∃ g o, a = ⟨g, o, none⟩ := by
      obtain ⟨cs', hc, _⟩ := hi 0 (by omega)
      rw [hC] at hc
      obtain ⟨_, hcl, hat⟩ := World.cells?_some hc
      have g0 := hat 0 (by omega)
      rw [Nat.zero_mul, show (a.add 0).add 0 = a by simp [Addr.add], List.getElem?_eq_getElem (show 0 < cs'.length by omega)] at g0
      exact plain_of_cell g0
    have each : ∀ i, i < len → ∃ y : LC, y.refs.length ≤ 9223372036854775807 ∧ ∃ B d, CellsAt w ag (ao + i * 3) [.bool y.used, .int .i64 y.data, .slice B y.refs.length d] ∧ R1 (fun _ => True) w B (ints y.refs) := by
      intro i hil
      obtain ⟨cs', hc, ht'⟩ := hi i (by omega)
      rw [hC] at hc
      obtain ⟨ys, n', _, _, hlen, hyl, hf⟩ := DataW.trod_struct he ht'
      obtain ⟨_, hcl, hat⟩ := World.cells?_some hc
      have fld : ∀ (j : Nat) (f : Field), (#[f0, f1, f2] : Array Field)[j]? = some f → ∃ (u : Value) (y : DataW H × List MemPlace), cs'[j]? = some u ∧ DataW.trod enc P w base spare held n' f.type [u] = some y := by
        intro j f hj
        obtain ⟨ho, hk⟩ := hone_of hone j f hj
        have hjl : j < 3 := (Array.getElem?_eq_some_iff.1 hj).1
        have hv : cs'[j]? = some (cs'[j]'(by omega)) := List.getElem?_eq_getElem (by omega)
        have g1 := hf j f hj
        rw [ho, hk] at g1
        have hone' : (cs'.drop j).take 1 = [cs'[j]'(by omega)] := by
          rw [List.drop_eq_getElem_cons (by omega)]
          rfl
        rw [hone'] at g1
        have hyl3 : ys.length = 3 := hyl
        have hys : ys[j]? = some (ys[j]'(by omega)) := List.getElem?_eq_getElem (by omega)
        exact ⟨_, _, hv, g1.trans hys⟩
      obtain ⟨u0, y0, hv0, t0⟩ := fld 0 f0 rfl
      obtain ⟨u1, y1, hv1, t1⟩ := fld 1 f1 rfl
      obtain ⟨u2, y2, hv2, t2⟩ := fld 2 f2 rfl
      obtain ⟨b, eb, _⟩ := DataW.trod_bool h0 t0
      obtain ⟨z, ez, _, _⟩ := DataW.trod_int h1 t1
      obtain ⟨B, xs, d, e2', hR, hxl, _⟩ := open_r1 h2 h1 h3 t2
      simp only [List.cons.injEq, and_true] at eb ez
      subst eb ez e2'
      have hcs3 : cs' = [.bool b, .int .i64 z, .slice B xs.length d] := by
        apply List.ext_getElem?
        intro j
        match j with
        | 0 => simpa using hv0
        | 1 => simpa using hv1
        | 2 => simpa using hv2
        | j + 3 => rw [List.getElem?_eq_none (by omega)]; simp
      refine ⟨⟨b, z, xs⟩, hxl, B, d, fun j u hu => ?_, hR⟩
      have hj : j < 3 := by
        have := (List.getElem?_eq_some_iff.1 hu).1
        simpa using this
      have g1 := hat j hj
      rw [Addr.add_lit, Addr.add_lit, hcs3, hu] at g1
      exact g1
    obtain ⟨cs, hcl, hcs⟩ := list_of each
    refine ⟨some ⟨ag, ao, none⟩, cs, cap, by rw [hcl], fun k c hk => ?_, by rw [hcl]; unfold maxLen at hm; omega, fun y hy => ?_⟩
    · obtain ⟨_, B, d, h1, h2⟩ := hcs k c hk
      exact ⟨ag, ao, B, d, rfl, trivial, h1, h2⟩
    · obtain ⟨k, hk⟩ := List.getElem?_of_mem hy
      exact (hcs k y hk).1
theorem trod_top {t e : TypeId} {r : Reach} {b0 : Nat} {v : Value} {d : DataW H} {p : List MemPlace} (hu : P.underlying t = some (.slice e)) (hval : Value.okWide P w r b0 t v) (h : DataW.Trod enc P w base spare held t v d p) :
    ∃ fuel, DataW.trod enc P w base spare held fuel t [v] = some (d, p) := by
  obtain ⟨a, len, cap, rfl⟩ := okWide_slice hu hval
  obtain ⟨fuel, hf⟩ := h
  exact ⟨fuel, hf⟩
theorem open_ro {t e ti : TypeId} {fuel : Nat} {v : Value} {x : DataW H × List MemPlace} {f0 f1 f2 f3 : Field} (ht : P.underlying t = some (.slice e)) (he : P.underlying e = some (.struct #[f0, f1, f2, f3])) (hone : oneCellFields P #[f0, f1, f2, f3] = true) (hC : P.cellsOf e = 4)
    (e0 : f0.type = ti) (e1 : f1.type = ti) (e2 : f2.type = ti) (e3 : f3.type = ti) (h1 : P.underlying ti = some (.int .i64))
    (h : DataW.trod enc P w base spare held fuel t [v] = some x) : ∃ (A : Option Addr) (cs : List LCmd) (c : Nat), v = .slice A cs.length c ∧ RO (fun _ => True) w A cs ∧ cs.length ≤ 9223372036854775807 ∧ cs.length ≤ c := by
  subst e0
  rcases open_slice ht h with ⟨hcs, _⟩ | ⟨a, len, cap, m, n, D, Pl, hcs, _, hl, hm, hmm, _, hi⟩
  · simp only [List.cons.injEq, and_true] at hcs
    subst hcs
    exact ⟨none, [], 0, rfl, fun k c hc => by simp at hc, by simp, by simp⟩
  · simp only [List.cons.injEq, and_true] at hcs
    subst hcs
    have hlm : len ≤ m := by
      rw [hmm]
      split
      · exact hl
      · exact Nat.le_refl _
    by_cases hl0 : len = 0
    · subst hl0
      exact ⟨some a, [], cap, rfl, fun k c hc => by simp at hc, by simp, by simp⟩
    obtain ⟨ag, ao, rfl⟩ : ∃ g o, a = ⟨g, o, none⟩ := by
      obtain ⟨cs', hc, _⟩ := hi 0 (by omega)
      rw [hC] at hc
      obtain ⟨_, hcl, hat⟩ := World.cells?_some hc
      have g0 := hat 0 (by omega)
      rw [Nat.zero_mul, show (a.add 0).add 0 = a by simp [Addr.add], List.getElem?_eq_getElem (show 0 < cs'.length by omega)] at g0
      exact plain_of_cell g0
    have each : ∀ i, i < len → ∃ y : LCmd, CellsAt w ag (ao + i * 4) (cmdC y) := by
      intro i hil
      obtain ⟨cs', hc, ht'⟩ := hi i (by omega)
      rw [hC] at hc
      obtain ⟨ys, n', _, _, hlen, hyl, hf⟩ := DataW.trod_struct he ht'
      obtain ⟨_, hcl, hat⟩ := World.cells?_some hc
      have fld : ∀ (j : Nat) (f : Field), (#[f0, f1, f2, f3] : Array Field)[j]? = some f → ∃ (u : Value) (y : DataW H × List MemPlace), cs'[j]? = some u ∧ DataW.trod enc P w base spare held n' f.type [u] = some y := by
        intro j f hj
        obtain ⟨ho, hk⟩ := hone_of hone j f hj
        have hjl : j < 4 := (Array.getElem?_eq_some_iff.1 hj).1
        have hv : cs'[j]? = some (cs'[j]'(by omega)) := List.getElem?_eq_getElem (by omega)
        have g1 := hf j f hj
        rw [ho, hk] at g1
        have hone' : (cs'.drop j).take 1 = [cs'[j]'(by omega)] := by
          rw [List.drop_eq_getElem_cons (by omega)]
          rfl
        rw [hone'] at g1
        have hyl4 : ys.length = 4 := hyl
        have hys : ys[j]? = some (ys[j]'(by omega)) := List.getElem?_eq_getElem (by omega)
        exact ⟨_, _, hv, g1.trans hys⟩
      obtain ⟨u0, y0, hv0, t0⟩ := fld 0 f0 rfl
      obtain ⟨u1, y1, hv1, t1⟩ := fld 1 f1 rfl
      obtain ⟨u2, y2, hv2, t2⟩ := fld 2 f2 rfl
      obtain ⟨u3, y3, hv3, t3⟩ := fld 3 f3 rfl
      obtain ⟨z0, ez0, _, _⟩ := DataW.trod_int h1 t0
      obtain ⟨z1, ez1, _, _⟩ := DataW.trod_int (by rw [e1]; exact h1) t1
      obtain ⟨z2, ez2, _, _⟩ := DataW.trod_int (by rw [e2]; exact h1) t2
      obtain ⟨z3, ez3, _, _⟩ := DataW.trod_int (by rw [e3]; exact h1) t3
      simp only [List.cons.injEq, and_true] at ez0 ez1 ez2 ez3
      subst ez0 ez1 ez2 ez3
      have hcs3 : cs' = cmdC ⟨z0, z1, z2, z3⟩ := by
        apply List.ext_getElem?
        intro j
        match j with
        | 0 => simpa [cmdC] using hv0
        | 1 => simpa [cmdC] using hv1
        | 2 => simpa [cmdC] using hv2
        | 3 => simpa [cmdC] using hv3
        | j + 4 => rw [List.getElem?_eq_none (by omega)]; simp [cmdC]
      refine ⟨⟨z0, z1, z2, z3⟩, fun j u hu => ?_⟩
      have hj : j < 4 := by
        have := (List.getElem?_eq_some_iff.1 hu).1
        simpa [cmdC] using this
      have g1 := hat j hj
      rw [Addr.add_lit, Addr.add_lit, hcs3, hu] at g1
      exact g1
    obtain ⟨cs, hcl, hcs⟩ := list_of each
    exact ⟨some ⟨ag, ao, none⟩, cs, cap, by rw [hcl], fun k c hk => ⟨ag, ao, rfl, trivial, hcs k c hk⟩, by rw [hcl]; unfold maxLen at hm; omega, by rw [hcl]; exact hl⟩
theorem open_rb {t e : TypeId} {fuel : Nat} {v : Value} {x : DataW H × List MemPlace} (ht : P.underlying t = some (.slice e)) (he : P.underlying e = some .bool) (hc : P.cellsOf e = 1)
    (h : DataW.trod enc P w base (fun _ => true) held fuel t [v] = some x) : ∃ (A : Option Addr) (xs : List Bool) (c : Nat), v = .slice A xs.length c ∧ R1 (fun _ => True) w A (bools xs) ∧ xs.length ≤ 9223372036854775807 ∧ xs.length ≤ c := by
  rcases open_bools ht he hc h with ⟨hcs, _⟩ | ⟨a, len, cap, B, hcs, _, hl, hm, _, hcell⟩
  · simp only [List.cons.injEq, and_true] at hcs
    subst hcs
    exact ⟨none, [], 0, rfl, R1.nil _ _ _, by simp, by simp⟩
  · simp only [List.cons.injEq, and_true] at hcs
    subst hcs
    refine ⟨some a, (List.range len).map B, cap, by simp, fun k u hu => ?_, by simp; unfold maxLen at hm; omega, by simpa using hl⟩
    have hk : k < len := by
      have := (List.getElem?_eq_some_iff.1 hu).1
      simpa [bools] using this
    obtain ⟨g, o, rfl⟩ : ∃ g o, a = ⟨g, o, none⟩ := by
      have h0 := hcell 0 (by omega)
      rw [show a.add 0 = a by simp [Addr.add]] at h0
      exact plain_of_cell h0
    refine ⟨g, o, rfl, trivial, ?_⟩
    have hck := hcell k (by omega)
    rw [Addr.add_lit] at hck
    rw [Nat.mul_one, hck]
    simp [bools, hk] at hu
    rw [hu]
theorem open_ru {t e : TypeId} {fuel : Nat} {v : Value} {x : DataW H × List MemPlace} (ht : P.underlying t = some (.slice e)) (he : P.underlying e = some (.int .u8)) (hc : P.cellsOf e = 1)
    (h : DataW.trod enc P w base spare held fuel t [v] = some x) : ∃ (A : Option Addr) (xs : List Int) (c : Nat), v = .slice A xs.length c ∧ R1 (fun _ => True) w A (u8s xs) ∧ xs.length ≤ 9223372036854775807 ∧ xs.length ≤ c ∧ ∀ y ∈ xs, 0 ≤ y ∧ y ≤ 255 := by
  rcases open_ints ht he hc h with ⟨hcs, _⟩ | ⟨a, len, cap, zs, hcs, _, hl, hm, hz, _, hcell, hwz⟩
  · simp only [List.cons.injEq, and_true] at hcs
    subst hcs
    exact ⟨none, [], 0, rfl, R1.nil _ _ _, by simp, by simp, by simp⟩
  · simp only [List.cons.injEq, and_true] at hcs
    subst hcs
    have hlz : len ≤ zs.length := by
      rw [hz]
      split
      · exact hl
      · exact Nat.le_refl _
    have hlen : (zs.take len).length = len := by rw [List.length_take]; omega
    refine ⟨some a, zs.take len, cap, by rw [hlen], fun k u hu => ?_, by rw [hlen]; unfold maxLen at hm; omega, by rw [hlen]; exact hl, fun y hy => ?_⟩
    · have hk : k < len := by
        have := (List.getElem?_eq_some_iff.1 hu).1
        rw [u8s, List.length_map, hlen] at this
        exact this
      obtain ⟨g, o, rfl⟩ : ∃ g o, a = ⟨g, o, none⟩ := by
        have h0 := hcell 0 (by omega)
        rw [show a.add 0 = a by simp [Addr.add]] at h0
        exact plain_of_cell h0
      refine ⟨g, o, rfl, trivial, ?_⟩
      have hck := hcell k (by omega)
      rw [Addr.add_lit] at hck
      rw [Nat.mul_one, hck]
      have hu' : (u8s (zs.take len))[k]? = some (.int .u8 (zs.getD k 0)) := by
        unfold u8s
        rw [List.getElem?_map, List.getElem?_take, if_pos hk, List.getElem?_eq_getElem (show k < zs.length by omega)]
        simp [List.getD, List.getElem?_eq_getElem (show k < zs.length by omega)]
      rw [hu'] at hu
      exact hu
    · have hy' := List.mem_of_mem_take hy
      have := hwz y hy'
      simp [Lit.wf, IntKind.min, IntKind.max, IntKind.bits, IntKind.signed] at this
      omega
/-- A struct whose first field is a struct of two fields of one cell. -/
theorem open_nest2 {r : Reach} {b0 : Nat} {t : TypeId} {f0 f1 g0 g1 : Field} {v : Value} {d : DataW H} {p : List MemPlace} (hs : P.underlying t = some (.struct #[f0, f1])) (hC : P.cellsOf t = 3) (ho0 : f0.offset = 0) (hk0 : P.cellsOf f0.type = 2) (ho1 : f1.offset = 2) (hk1 : P.cellsOf f1.type = 1)
    (hi : P.underlying f0.type = some (.struct #[g0, g1])) (hone : oneCellFields P #[g0, g1] = true) (hv : Value.okWide P w r b0 t v) (h : DataW.Trod enc P w base spare held t v d p) :
    ∃ (v0 v1 v2 : Value) (y0 y1 y2 : DataW H × List MemPlace) (n m : Nat), v = .agg #[v0, v1, v2] ∧ DataW.trod enc P w base spare held n g0.type [v0] = some y0 ∧ DataW.trod enc P w base spare held n g1.type [v1] = some y1 ∧ DataW.trod enc P w base spare held m f1.type [v2] = some y2 := by
  obtain ⟨cs, rfl, hsz⟩ := okWide_struct hs hv
  obtain ⟨c0, c1, c2, rfl⟩ := array3 (hsz.trans hC)
  obtain ⟨fuel, hf⟩ := h
  obtain ⟨y0, y1, n, hx, _, h0, h1⟩ := trod_struct2 hs hf
  have h0' : DataW.trod enc P w base spare held n f0.type [c0, c1] = some y0 := by simpa [Value.cells, ho0, hk0] using h0
  have h1' : DataW.trod enc P w base spare held n f1.type [c2] = some y1 := by simpa [Value.cells, ho1, hk1] using h1
  obtain ⟨z0, z1, m, _, _, k0, k1⟩ := trod_struct2 hi h0'
  obtain ⟨a0, b0⟩ := hone_of hone 0 g0 rfl
  obtain ⟨a1, b1⟩ := hone_of hone 1 g1 rfl
  exact ⟨c0, c1, c2, z0, z1, y1, m, n, rfl, by simpa [a0, b0] using k0, by simpa [a1, b1] using k1, h1'⟩
theorem open_nest3 {r : Reach} {b0 : Nat} {t : TypeId} {f0 f1 f2 g0 g1 : Field} {v : Value} {d : DataW H} {p : List MemPlace} (hs : P.underlying t = some (.struct #[f0, f1, f2])) (hC : P.cellsOf t = 4) (ho0 : f0.offset = 0) (hk0 : P.cellsOf f0.type = 2) (ho1 : f1.offset = 2) (hk1 : P.cellsOf f1.type = 1) (ho2 : f2.offset = 3) (hk2 : P.cellsOf f2.type = 1)
    (hi : P.underlying f0.type = some (.struct #[g0, g1])) (hone : oneCellFields P #[g0, g1] = true) (hv : Value.okWide P w r b0 t v) (h : DataW.Trod enc P w base spare held t v d p) :
    ∃ (v0 v1 v2 v3 : Value) (y0 y1 y2 y3 : DataW H × List MemPlace) (n m : Nat), v = .agg #[v0, v1, v2, v3] ∧ DataW.trod enc P w base spare held n g0.type [v0] = some y0 ∧ DataW.trod enc P w base spare held n g1.type [v1] = some y1 ∧ DataW.trod enc P w base spare held m f1.type [v2] = some y2 ∧ DataW.trod enc P w base spare held m f2.type [v3] = some y3 := by
  obtain ⟨cs, rfl, hsz⟩ := okWide_struct hs hv
  obtain ⟨c0, c1, c2, c3, rfl⟩ := array4 (hsz.trans hC)
  obtain ⟨fuel, hf⟩ := h
  obtain ⟨y0, y1, y2, n, hx, _, h0, h1, h2⟩ := trod_struct3 hs hf
  have h0' : DataW.trod enc P w base spare held n f0.type [c0, c1] = some y0 := by simpa [Value.cells, ho0, hk0] using h0
  have h1' : DataW.trod enc P w base spare held n f1.type [c2] = some y1 := by simpa [Value.cells, ho1, hk1] using h1
  have h2' : DataW.trod enc P w base spare held n f2.type [c3] = some y2 := by simpa [Value.cells, ho2, hk2] using h2
  obtain ⟨z0, z1, m, _, _, k0, k1⟩ := trod_struct2 hi h0'
  obtain ⟨a0, b0⟩ := hone_of hone 0 g0 rfl
  obtain ⟨a1, b1⟩ := hone_of hone 1 g1 rfl
  exact ⟨c0, c1, c2, c3, z0, z1, y1, y2, m, n, rfl, by simpa [a0, b0] using k0, by simpa [a1, b1] using k1, h1', h2'⟩
end
end Go.Proofs.Ytjmfdmndchoplaa
