/-
  Walks through functions of the program and the reference, and the plain laws behind them: what one claim needs of them.
  Conditions: those that each theorem states.
-/
import Derived.Test.YtikgflhepclfgacQc2
set_option linter.unusedVariables false
set_option linter.unusedSimpArgs false
namespace Go.Proofs.Ytikgflhepclfgac
/-! Put -/
section
open Go Go.RowKit
section
variable {P : Program} {F : Fr} {w : World} {t : TypeId} {x y : Operand} {Pr : Nat → Prop} {eC eI e : TypeId} {A B : Option Addr} {h : LH} {rs : List (Option Addr × Nat)} {us : List Value}
/-- An element of an owned row is written. -/
theorem Ys_row {b k : Nat} {v : Value} (hs : sz P t = some 1) (O : OI Pr w e (some ⟨b, 0, none⟩) us) (hk : k < us.length) (hx : ev F x = some (.pointer (some ⟨b, 0 + k * 1, none⟩))) (hy : ev F y = some v) (hv : v.cells = #[v]) (h1 : v.oneCell' = true) :
    ∃ w', Ys P F (.store t x y) w w' ∧ Mod (fun i => i = b) w w' ∧ Pr b ∧ OI Pr w' e (some ⟨b, 0, none⟩) (us.set k v) := by
  obtain ⟨b', post, hA, hp, hB⟩ := O (fun e0 => by rw [e0] at hk; simp at hk)
  cases hA
  have hsp : us ++ post = us.take k ++ [us[k]] ++ (us.drop (k + 1) ++ post) := by
    have h0 := split_at (List.getElem?_eq_getElem hk)
    have h9 : us ++ post = (us.take k ++ [us[k]] ++ us.drop (k + 1)) ++ post := by rw [← h0]
    rw [h9, List.append_assoc]
  rw [hsp] at hB
  have hy2 := Ys_M (P := P) (F := F) (t := t) (x := x) (y := y) (pre := us.take k) (old := [us[k]]) (post := us.drop (k + 1) ++ post) (vs := [v]) hs hx hy hv (by simp [oneL, h1]) hB (by rw [List.length_take]; omega) rfl
  refine ⟨_, hy2, mod_setRow w b _, hp, fun _ => ⟨b, post, rfl, hp, ?_⟩⟩
  have := hB.setRow ((us.take k ++ [v] ++ (us.drop (k + 1) ++ post)).toArray)
  have e2 : us.take k ++ [v] ++ (us.drop (k + 1) ++ post) = us.set k v ++ post := by
    rw [List.set_eq_take_append_cons_drop, if_pos hk]
    simp
  rw [e2] at this
  rw [e2]
  exact this
theorem ints_set {xs : List Int} {k : Nat} {v : Int} : (ints xs).set k (.int .i64 v) = ints (xs.set k v) := by
  unfold ints
  rw [List.map_set]
theorem bools_set {xs : List Bool} {k : Nat} {v : Bool} : (bools xs).set k (.bool v) = bools (xs.set k v) := by
  unfold bools
  rw [List.map_set]
end
section
variable {Pr Pr' S : Nat → Prop} {w w' : World} {e eC eI : TypeId} {A B : Option Addr} {h : LH} {rs : List (Option Addr × Nat)} {us : List Value} {s n cap c d : Nat}
theorem OW.modT {b : Nat} {arr : Array Value} (O : OW Pr w eC s A n cap us) (hB : Blk w b eI arr) (hne : eC ≠ eI) (m : Mod (fun i => i = b) w w') : OW Pr w' eC s A n cap us := by
  refine ⟨O.1, ?_⟩
  rcases O.2 with a | ⟨g, cur, h1, h2, h3, h4⟩
  · exact .inl a
  · exact .inr ⟨g, cur, h1, h2, (m.block g (Blk.lt h3) (fun e0 => by
      have e1 : g = b := e0
      subst e1
      exact Blk.ne h3 hB hne rfl)).trans h3, h4⟩
/-- A heap that is owned whole, and whose rows may be made longer. -/
structure XH (Pr : Nat → Prop) (w : World) (eC eI : TypeId) (A B : Option Addr) (h : LH) (rs : List (Option Addr × Nat)) (c d : Nat) : Prop where
  rows : ORs Pr w eI h.cells rs
  row : OW Pr w eC 3 A h.cells.length c (flatC h.cells rs)
  roots : OI Pr w eI B (ints h.roots)
  far : ∀ (i : Nat) (c : LC) (r : Option Addr × Nat), h.cells[i]? = some c → rs[i]? = some r → c.refs ≠ [] → h.roots ≠ [] → r.1 ≠ B
  rd : h.roots.length ≤ d
theorem XH.mod (o : XH Pr w eC eI A B h rs c d) (m : Mod S w w') (hd : ∀ k, Pr k → ¬ S k) : XH Pr w' eC eI A B h rs c d := ⟨o.rows.mod m hd, o.row.mod m hd, o.roots.mod m hd, o.far, o.rd⟩
theorem XH.md (o : XH Pr w eC eI A B h rs c d) (m : Mod S w w') (hd : ∀ k, Pr k → ¬ S k := by intro k hk h; first | omega | (dsimp only at hk h; omega) | (dsimp only at hk; omega)) : XH Pr w' eC eI A B h rs c d := o.mod m hd
theorem XH.grow (o : XH Pr w eC eI A B h rs c d) (m : Grow w w') : XH Pr w' eC eI A B h rs c d := o.mod m (fun _ _ h => h)
theorem XH.weak (o : XH Pr w eC eI A B h rs c d) (hp : ∀ k, Pr k → Pr' k) : XH Pr' w eC eI A B h rs c d := ⟨o.rows.weak hp, o.row.weak hp, o.roots.weak hp, o.far, o.rd⟩
theorem XH.lt (o : XH Pr w eC eI A B h rs c d) : XH (fun k => Pr k ∧ k < w.heap.size) w eC eI A B h rs c d := ⟨o.rows.lt, o.row.lt, o.roots.lt, o.far, o.rd⟩
theorem XH.oc (o : XH Pr w eC eI A B h rs c d) : OC Pr w eC eI A h.cells rs := ⟨o.rows, fun hn => o.row.blk (fun e0 => by
  have h1 := o.row.1
  rw [e0] at h1
  exact hn (List.eq_nil_of_length_eq_zero (by simp at h1; omega)))⟩
theorem XH.rc (o : XH Pr w eC eI A B h rs c d) : RC Pr w A h.cells := o.oc.rc
theorem XH.r1 (o : XH Pr w eC eI A B h rs c d) : R1 Pr w B (ints h.roots) := o.roots.r1
theorem XH.nil (Pr : Nat → Prop) (w : World) (eC eI : TypeId) : XH Pr w eC eI none none nilH [] 0 0 := ⟨ORs.nil _ _ _, OW.nil _ _ _ _, OI.nil _ _ _ _, fun i c r h => by simp [nilH] at h, Nat.le_refl _⟩
theorem XH.cast {h2 : LH} (o : XH Pr w eC eI A B h rs c d) (e0 : h = h2) : XH Pr w eC eI A B h2 rs c d := e0 ▸ o
theorem XH.of_parts {P1 P2 : Nat → Prop} (hr : ORs P1 w eI h.cells rs) (hw : OW P1 w eC 3 A h.cells.length c (flatC h.cells rs)) (hR : OI P2 w eI B (ints h.roots)) (hrd : h.roots.length ≤ d) (hne : ∀ k b, P1 k → B = some ⟨b, 0, none⟩ → P2 b → k ≠ b) (h1 : ∀ k, P1 k → Pr k) (h2 : ∀ k, P2 k → Pr k) : XH Pr w eC eI A B h rs c d := by
  refine ⟨hr.weak h1, hw.weak h1, hR.weak h2, fun i x r h1 h2 h3 h4 e0 => ?_, hrd⟩
  obtain ⟨b, _, e1, hp1, _⟩ := hR (by simp [ints, h4])
  obtain ⟨g, _, e2, hp2, _⟩ := hr.own i x r h1 h2 (by simp [ints, h3])
  rw [e0, e1] at e2
  cases e2
  exact hne b b hp2 e1 hp1 rfl
/-- The rows of references lie elsewhere than the roots. -/
theorem XH.offRoots {b : Nat} (o : XH Pr w eC eI A (some ⟨b, 0, none⟩) h rs c d) (hr : h.roots ≠ []) (m : Mod (fun i => i = b) w w') : ORs Pr w' eI h.cells rs :=
  ⟨o.rows.len, fun i x r h1 h2 hn => by
    obtain ⟨b1, post, e1, p1, B1⟩ := o.rows.own i x r h1 h2 hn
    exact ⟨b1, post, e1, p1, B1.mod m (fun e0 => by
      have e2 : b1 = b := e0
      subst e2
      exact o.far i x r h1 h2 (ints_ne.1 hn) hr e1)⟩, o.rows.far⟩
theorem XH.cellAt (o : XH Pr w eC eI A B h rs c d) (hne : eC ≠ eI) {i : Nat} (hi : i < h.cells.length) : ∃ g R cap, A = some ⟨g, 0, none⟩ ∧ Pr g ∧ rs[i]? = some (R, cap) ∧ CellsAt w g (0 + i * 3) [.bool h.cells[i].used, .int .i64 h.cells[i].data, .slice R h.cells[i].refs.length cap] ∧ R1 Pr w R (ints h.cells[i].refs) ∧ (0 < h.cells[i].refs.length → ∃ b, R = some ⟨b, 0, none⟩ ∧ Pr b ∧ b ≠ g) := by
  obtain ⟨g, post, hA, hp, hB⟩ := o.oc.blk (fun e0 => by rw [e0] at hi; simp at hi)
  have hl := o.rows.len
  have hc : h.cells[i]? = some h.cells[i] := List.getElem?_eq_getElem hi
  have hr : rs[i]? = some (rs[i]'(by omega)) := List.getElem?_eq_getElem _
  have hown := o.rows.own i _ _ hc hr
  refine ⟨g, (rs[i]'(by omega)).1, (rs[i]'(by omega)).2, hA, hp, hr, ?_, hown.r1, fun h0 => ?_⟩
  · have hB2 := hB
    rw [flatC_at hl hc hr, List.append_assoc] at hB2
    rw [Nat.zero_add]
    exact CellsAt.of_blk hB2 (by rw [flatC_len (by simp [hl]), List.length_take]; omega)
  · obtain ⟨b, p2, e1, h2, hB2⟩ := hown (ints_ne.2 (fun e0 => by rw [e0] at h0; simp at h0))
    exact ⟨b, e1, h2, hB2.ne hB (fun e0 => hne e0.symm)⟩
end
section
variable {P : Program} {F : Fr} {w : World} {t : TypeId} {x y : Operand} {Pr : Nat → Prop} {eC eI e : TypeId} {A B : Option Addr} {h : LH} {rs : List (Option Addr × Nat)} {us : List Value} {c d : Nat}
/-- Cells in the middle of a row that may be made longer are written. -/
theorem Ys_ow {g o s n cap : Nat} {pre old mid vs : List Value} {v : Value} (hs : sz P t = some vs.length) (O : OW Pr w e s (some ⟨g, 0, none⟩) n cap (pre ++ old ++ mid)) (hx : ev F x = some (.pointer (some ⟨g, o, none⟩))) (hy : ev F y = some v) (hv : v.cells = vs.toArray) (h1 : oneL vs = true) (ho : pre.length = o) (hl : old.length = vs.length) (h0 : 0 < vs.length) :
    ∃ w', Ys P F (.store t x y) w w' ∧ Mod (fun i => i = g) w w' ∧ Pr g ∧ (∃ arr, Blk w g e arr) ∧ OW Pr w' e s (some ⟨g, 0, none⟩) n cap (pre ++ vs ++ mid) := by
  rcases O.2 with ⟨e0, _⟩ | ⟨g', cur, e1, hp, hB, h4, h5, h6, h7⟩
  · cases e0
  · cases e1
    have hcur : cur = (pre ++ old ++ (mid ++ cur.toList.drop (n * s))).toArray := by
      rw [← List.append_assoc, ← h7, List.take_append_drop]
    have hB1 : Blk w g e cur := hB
    have hB2 := hB1
    rw [hcur] at hB2
    have hy2 := Ys_M (P := P) (F := F) (t := t) (x := x) (y := y) hs hx hy hv h1 hB2 ho hl
    have hB3 := hB2.setRow (pre ++ vs ++ (mid ++ cur.toList.drop (n * s))).toArray
    refine ⟨_, hy2, mod_setRow w g _, hp, ⟨_, hB1⟩, ?_, .inr ⟨g, _, rfl, hp, hB3, h4, h5, ?_, ?_⟩⟩
    · have := O.1
      simp only [List.length_append] at this ⊢
      omega
    · have h8 := congrArg Array.size hcur
      rw [h6] at h8
      simp only [List.size_toArray, List.length_append] at h8 ⊢
      omega
    · have h8 := O.1
      have e3 : pre ++ vs ++ (mid ++ cur.toList.drop (n * s)) = (pre ++ vs ++ mid) ++ cur.toList.drop (n * s) := by simp
      show (pre ++ vs ++ (mid ++ cur.toList.drop (n * s))).take (n * s) = _
      rw [e3, List.take_left']
      simp only [List.length_append] at h8 ⊢
      omega
/-- A root is written. -/
theorem Ys_root {b k : Nat} {v : Int} (hs : sz P t = some 1) (o : XH Pr w eC eI A (some ⟨b, 0, none⟩) h rs c d) (hne : eC ≠ eI) (hk : k < h.roots.length) (hx : ev F x = some (.pointer (some ⟨b, 0 + k * 1, none⟩))) (hy : ev F y = some (.int .i64 v)) :
    ∃ w', Ys P F (.store t x y) w w' ∧ Mod (fun i => i = b) w w' ∧ Pr b ∧ XH Pr w' eC eI A (some ⟨b, 0, none⟩) ⟨h.cells, h.roots.set k v⟩ rs c d := by
  obtain ⟨w', hy2, m, hp, O⟩ := Ys_row (P := P) (F := F) (t := t) (x := x) (y := y) hs o.roots (by rw [ints_len]; exact hk) hx hy rfl rfl
  rw [ints_set] at O
  have hr : h.roots ≠ [] := fun e0 => by rw [e0] at hk; simp at hk
  obtain ⟨b', post, e1, _, hB⟩ := o.roots (ints_ne.2 hr)
  cases e1
  exact ⟨w', hy2, m, hp, o.offRoots hr m, o.row.modT hB hne m, O, fun i c r h1 h2 h3 h4 => o.far i c r h1 h2 h3 hr, by show (h.roots.set k v).length ≤ d; rw [List.length_set]; exact o.rd⟩
theorem flatC_ref {cs : List LC} {i : Nat} {c c' : LC} (hc : cs[i]? = some c) (h1 : c'.used = c.used) (h2 : c'.data = c.data) (h3 : c'.refs.length = c.refs.length) {rs : List (Option Addr × Nat)} : flatC (cs.set i c') rs = flatC cs rs := by
  induction cs generalizing i rs with
  | nil => rfl
  | cons a l ih =>
    cases rs with
    | nil => cases i <;> rfl
    | cons r rs =>
      cases i with
      | zero =>
        simp only [List.getElem?_cons_zero, Option.some.injEq] at hc
        subst hc
        simp only [List.set_cons_zero, flatC, h1, h2, h3]
      | succ i =>
        simp only [List.getElem?_cons_succ] at hc
        simp only [List.set_cons_succ, flatC, ih hc]
/-- A reference of a cell is written. -/
theorem Ys_ref {b i j cap : Nat} {v : Int} (hs : sz P t = some 1) (o : XH Pr w eC eI A B h rs c d) (hne : eC ≠ eI) (hi : i < h.cells.length) (hr : rs[i]? = some (some ⟨b, 0, none⟩, cap)) (hj : j < h.cells[i].refs.length) (hx : ev F x = some (.pointer (some ⟨b, 0 + j * 1, none⟩))) (hy : ev F y = some (.int .i64 v)) :
    ∃ w', Ys P F (.store t x y) w w' ∧ Mod (fun i => i = b) w w' ∧ Pr b ∧ XH Pr w' eC eI A B ⟨h.cells.set i ⟨h.cells[i].used, h.cells[i].data, h.cells[i].refs.set j v⟩, h.roots⟩ rs c d := by
  have hc : h.cells[i]? = some h.cells[i] := List.getElem?_eq_getElem hi
  have hown := o.rows.own i _ _ hc hr
  obtain ⟨w', hy2, m, hp, O⟩ := Ys_row (P := P) (F := F) (t := t) (x := x) (y := y) hs hown (by rw [ints_len]; exact hj) hx hy rfl rfl
  rw [ints_set] at O
  have hcn : h.cells[i].refs ≠ [] := fun e0 => by rw [e0] at hj; simp at hj
  obtain ⟨b2, p2, e4, _, hB2⟩ := hown (ints_ne.2 hcn)
  cases e4
  have hOR := o.rows.mark (c' := ⟨h.cells[i].used, h.cells[i].data, h.cells[i].refs.set j v⟩) hc hr (m.weak (T := fun k => 0 < h.cells[i].refs.length ∧ (some ⟨b, 0, none⟩ : Option Addr) = some ⟨k, 0, none⟩) (fun k e0 _ => by
    have e1 : k = b := e0
    subst e1
    exact ⟨by omega, rfl⟩)) O (by simp)
  refine ⟨w', hy2, m, hp, hOR, ?_, o.roots.keep m (fun b' e1 e2 e3 => ?_), fun k x r h1 h2 h3 h4 => ?_, o.rd⟩
  · show OW Pr w' eC 3 A (h.cells.set i ⟨h.cells[i].used, h.cells[i].data, h.cells[i].refs.set j v⟩).length c (flatC (h.cells.set i ⟨h.cells[i].used, h.cells[i].data, h.cells[i].refs.set j v⟩) rs)
    rw [flatC_ref (c' := ⟨h.cells[i].used, h.cells[i].data, h.cells[i].refs.set j v⟩) hc rfl rfl (by simp), List.length_set]
    exact o.row.modT hB2 hne m
  · have e4 : b' = b := e3
    subst e4
    exact o.far i _ _ hc hr hcn (ints_ne.1 e2) (by rw [e1])
  · rcases set_get h1 with ⟨rfl, rfl⟩ | ⟨_, h1⟩
    · exact o.far _ _ _ hc h2 hcn h4
    · exact o.far k x r h1 h2 h3 h4
/-- The data of a cell is written. -/
theorem Ys_data {g i : Nat} {v : Int} (hs : sz P t = some 1) (o : XH Pr w eC eI (some ⟨g, 0, none⟩) B h rs c d) (hne : eC ≠ eI) (hi : i < h.cells.length) (hx : ev F x = some (.pointer (some ⟨g, 0 + i * 3 + 1, none⟩))) (hy : ev F y = some (.int .i64 v)) :
    ∃ w', Ys P F (.store t x y) w w' ∧ Mod (fun i => i = g) w w' ∧ Pr g ∧ XH Pr w' eC eI (some ⟨g, 0, none⟩) B ⟨h.cells.set i ⟨h.cells[i].used, v, h.cells[i].refs⟩, h.roots⟩ rs c d := by
  have hl := o.rows.len
  have hc : h.cells[i]? = some h.cells[i] := List.getElem?_eq_getElem hi
  obtain ⟨r, hr⟩ : ∃ r, rs[i]? = some r := ⟨_, List.getElem?_eq_getElem (by omega)⟩
  have hpl := flat_pre (k := i) hl (by omega)
  have hone := flat_one (post := []) hl hc hr
  have hfs := flat_set hl hi hr (c := ⟨h.cells[i].used, v, h.cells[i].refs⟩) (post := [])
  rw [List.append_nil (flatC h.cells rs)] at hone
  replace hfs := hfs.trans (List.append_nil _)
  have hrow := o.row
  rw [hone, show flatC (h.cells.take i) (rs.take i) ++ [Value.bool h.cells[i].used] ++ ([Value.int .i64 h.cells[i].data, Value.slice r.1 h.cells[i].refs.length r.2] ++ (flatC (h.cells.drop (i + 1)) (rs.drop (i + 1)) ++ []))
      = (flatC (h.cells.take i) (rs.take i) ++ [.bool h.cells[i].used]) ++ [.int .i64 h.cells[i].data] ++ ([.slice r.1 h.cells[i].refs.length r.2] ++ (flatC (h.cells.drop (i + 1)) (rs.drop (i + 1)) ++ [])) by simp] at hrow
  obtain ⟨w', hy2, m, hp, ⟨arr, hB0⟩, O⟩ := Ys_ow (P := P) (F := F) (t := t) (x := x) (y := y) (vs := [.int .i64 v]) hs hrow hx hy rfl rfl (by rw [List.length_append, hpl]; simp) rfl (by simp)
  rw [hfs] at O
  have hOR := o.rows.modT hB0 hne m
  have hc2 : ∀ (k : Nat) (x : LC), (h.cells.set i ⟨h.cells[i].used, v, h.cells[i].refs⟩)[k]? = some x → ∃ c0, h.cells[k]? = some c0 ∧ c0.refs = x.refs := fun k x h1 => by
    rcases set_get h1 with ⟨rfl, rfl⟩ | ⟨_, h1⟩
    · exact ⟨_, hc, rfl⟩
    · exact ⟨x, h1, rfl⟩
  refine ⟨w', hy2, m, hp, ⟨by rw [List.length_set]; exact hl, fun k x q h1 h2 => ?_, fun k l x x' q q' h1 h2 h3 h4 h5 h6 h7 => ?_⟩, ?_, ?_, fun k x q h1 h2 h3 h4 => ?_, o.rd⟩
  · obtain ⟨c0, e1, e2⟩ := hc2 k x h1
    rw [← e2]
    exact hOR.own k c0 q e1 h2
  · obtain ⟨c0, e1, e2⟩ := hc2 k x h1
    obtain ⟨c1, e3, e4⟩ := hc2 l x' h2
    exact hOR.far k l c0 c1 q q' e1 e3 h3 h4 h5 (by rw [e2]; exact h6) (by rw [e4]; exact h7)
  · show OW Pr w' eC 3 _ (h.cells.set i ⟨h.cells[i].used, v, h.cells[i].refs⟩).length c _
    rw [List.length_set]
    exact O
  · exact o.roots.keep m (fun b hb hn e0 => by
      obtain ⟨b', _, e1, _, hB⟩ := o.roots hn
      rw [hb] at e1
      cases e1
      have e2 : b = g := e0
      subst e2
      exact hB0.ne hB hne rfl)
  · obtain ⟨c0, e1, e2⟩ := hc2 k x h1
    exact o.far k c0 q e1 h2 (by rw [e2]; exact h3) h4
section
variable {w' : World}
/-- What holds of the rows of references once a cell was put in its place. -/
theorem ORs.put {PR : Nat → Prop} {cs : List LC} {i cap : Nat} {x : LC} {R : Option Addr} (hOR : ORs Pr w eI cs rs) (hR : OI PR w eI R (ints x.refs)) (hd : ∀ k, PR k → ¬ Pr k) : ORs (fun k => Pr k ∨ PR k) w eI (cs.set i x) (rs.set i (R, cap)) := by
  have hl := hOR.len
  have hc2 : ∀ (k : Nat) (q : LC), (cs.set i x)[k]? = some q → (k = i ∧ q = x) ∨ (k ≠ i ∧ cs[k]? = some q) := fun k q h1 => by
    rcases set_get h1 with ⟨e1, e2⟩ | ⟨e1, h1⟩
    · exact .inl ⟨e1.symm, e2⟩
    · exact .inr ⟨fun e0 => e1 e0.symm, h1⟩
  have hr2 : ∀ (k : Nat) (q : Option Addr × Nat), (rs.set i (R, cap))[k]? = some q → (k = i ∧ q = (R, cap)) ∨ (k ≠ i ∧ rs[k]? = some q) := fun k q h1 => by
    rcases set_get h1 with ⟨e1, e2⟩ | ⟨e1, h1⟩
    · exact .inl ⟨e1.symm, e2⟩
    · exact .inr ⟨fun e0 => e1 e0.symm, h1⟩
  have apart : ∀ (k : Nat) (d : LC) (q : Option Addr × Nat), cs[k]? = some d → rs[k]? = some q → d.refs ≠ [] → x.refs ≠ [] → q.1 ≠ R := fun k d q h1 h2 h3 h4 e0 => by
    obtain ⟨b1, _, e1, p1, _⟩ := hOR.own k d q h1 h2 (ints_ne.2 h3)
    obtain ⟨b2, _, e2, p2, _⟩ := hR (ints_ne.2 h4)
    rw [e0, e2] at e1
    cases e1
    exact hd _ p2 p1
  refine ⟨by rw [List.length_set, List.length_set]; exact hl, fun k d q h1 h2 => ?_, fun k l d d' q q' h1 h2 h3 h4 h5 h6 h7 => ?_⟩
  · rcases hc2 k d h1 with ⟨e1, rfl⟩ | ⟨e1, h1⟩
    · rcases hr2 k q h2 with ⟨e2, rfl⟩ | ⟨e2, h2⟩
      · exact hR.weak (fun _ => .inr)
      · exact absurd e1 e2
    · rcases hr2 k q h2 with ⟨e2, rfl⟩ | ⟨e2, h2⟩
      · exact absurd e2 e1
      · exact (hOR.own k d q h1 h2).weak (fun _ => .inl)
  · rcases hc2 k d h1 with ⟨e1, rfl⟩ | ⟨e1, g1⟩
    · rcases hr2 k q h3 with ⟨e2, rfl⟩ | ⟨e2, h3⟩
      · rcases hc2 l d' h2 with ⟨e3, rfl⟩ | ⟨e3, h2⟩
        · exact absurd (e1.trans e3.symm) h5
        · rcases hr2 l q' h4 with ⟨e4, _⟩ | ⟨_, h4⟩
          · exact absurd e4 e3
          · exact fun e0 => apart l d' q' h2 h4 h7 h6 e0.symm
      · exact absurd e1 e2
    · rcases hr2 k q h3 with ⟨e2, rfl⟩ | ⟨e2, g3⟩
      · exact absurd e2 e1
      · rcases hc2 l d' h2 with ⟨e3, e5⟩ | ⟨e3, g2⟩
        · rcases hr2 l q' h4 with ⟨e4, e6⟩ | ⟨e4, _⟩
          · rw [e6]
            exact apart k d q g1 g3 h6 (by rw [← e5]; exact h7)
          · exact absurd e3 e4
        · rcases hr2 l q' h4 with ⟨e4, _⟩ | ⟨e4, g4⟩
          · exact absurd e4 e3
          · exact hOR.far k l d d' q q' g1 g2 g3 g4 h5 h6 h7
end
/-- A cell is written whole; its references lie in a row of their own. -/
theorem Ys_cell {g i cap : Nat} {z : LC} {R : Option Addr} {PR : Nat → Prop} (hs : sz P t = some 3) (o : XH Pr w eC eI (some ⟨g, 0, none⟩) B h rs c d) (hne : eC ≠ eI) (hi : i < h.cells.length) (hR : OI PR w eI R (ints z.refs)) (hd : ∀ k, PR k → ¬ Pr k) (hx : ev F x = some (.pointer (some ⟨g, 0 + i * 3, none⟩))) (hy : ev F y = some (.agg #[.bool z.used, .int .i64 z.data, .slice R z.refs.length cap])) :
    ∃ w', Ys P F (.store t x y) w w' ∧ Mod (fun i => i = g) w w' ∧ Pr g ∧ XH (fun k => Pr k ∨ PR k) w' eC eI (some ⟨g, 0, none⟩) B ⟨h.cells.set i z, h.roots⟩ (rs.set i (R, cap)) c d := by
  have hl := o.rows.len
  have hc : h.cells[i]? = some h.cells[i] := List.getElem?_eq_getElem hi
  obtain ⟨r, hr⟩ : ∃ r, rs[i]? = some r := ⟨_, List.getElem?_eq_getElem (by omega)⟩
  have hpl := flat_pre (k := i) hl (by omega)
  have hsp := flat_split (post := []) hl hc hr
  have hpu := flat_put (c := z) (r := (R, cap)) (post := []) hl hi
  rw [List.append_nil (flatC h.cells rs)] at hsp
  replace hpu := hpu.trans (List.append_nil _)
  have hrow := o.row
  rw [hsp] at hrow
  obtain ⟨w', hy2, m, hp, ⟨arr, hB0⟩, O⟩ := Ys_ow (P := P) (F := F) (t := t) (x := x) (y := y) (vs := [.bool z.used, .int .i64 z.data, .slice R z.refs.length cap]) hs hrow hx hy rfl rfl (by rw [hpl]; omega) rfl (by simp)
  have hOR := (o.rows.modT hB0 hne m).put (i := i) (cap := cap) (hR.modT hB0 hne m) hd
  have hrt := o.roots.modT hB0 hne m
  refine ⟨w', hy2, m, hp, hOR, ?_, hrt.weak (fun _ => .inl), fun k q r h1 h2 h3 h4 => ?_, o.rd⟩
  · show OW _ w' eC 3 _ (h.cells.set i z).length c _
    rw [List.length_set]
    have O2 := O.weak (Pr' := fun k => Pr k ∨ PR k) (fun _ => .inl)
    rw [← hpu]
    exact O2
  · rcases set_get h1 with ⟨e1, e2⟩ | ⟨e1, h1⟩
    · subst e1
      subst e2
      rcases set_get h2 with ⟨_, e3⟩ | ⟨e3, _⟩
      · subst e3
        intro e0
        obtain ⟨b1, _, e5, p1, _⟩ := o.roots (ints_ne.2 h4)
        obtain ⟨b2, _, e6, p2, _⟩ := hR (ints_ne.2 h3)
        have e7 : R = B := e0
        rw [e7, e5] at e6
        cases e6
        exact hd _ p2 p1
      · exact absurd rfl e3
    · rcases set_get h2 with ⟨e3, _⟩ | ⟨_, h2⟩
      · exact absurd e3 e1
      · exact o.far k q r h1 h2 h3 h4
end
section
variable {P : Program} {ops : Array Oper} {Q : Exit → Act → World → Prop} {S : World → Prop} {rest : List Oper} {fuel : Nat} {lst : List Bool} {F : Fr} {D : List Deferred} {w : World} {i : Nat}
  {ty : TypeId} {pos : String} {af : Array Edge} {t : TypeId} {x y : Operand} {R : World → Prop}
theorem S_of (h : ∃ w', Ys P F (.store t x y) w w' ∧ R w') (k : ∀ w', R w' → wpList P ops Q rest ⟨F.list.toArray, D⟩ w') : wpList P ops Q (⟨none, .store t x y, ty, pos, af, none⟩ :: rest) ⟨F.list.toArray, D⟩ w := by
  obtain ⟨w', h1, h2⟩ := h
  exact S_st h1 (k w' h2)
theorem E_of (hi : ops[i]? = some ⟨none, .store t x y, ty, pos, af, none⟩) (h : ∃ w', Ys P F (.store t x y) w w' ∧ R w') (k : ∀ w', R w' → S w' ∧ wpAnyH P .any ops Q S fuel (lst.set i true).toArray ⟨F.list.toArray, D⟩ w') : dOp P ops Q S fuel lst ⟨F.list.toArray, D⟩ w i := by
  obtain ⟨w', h1, h2⟩ := h
  exact E_st hi h1 (k w' h2).1 (k w' h2).2
end
section
variable {Pr Pr' PR : Nat → Prop} {w w' : World} {eC eI : TypeId} {A A' B R : Option Addr} {h : LH} {rs : List (Option Addr × Nat)} {c c' d bc q : Nat} {z : LC}
theorem ORs.snocD {cs : List LC} (h : ORs Pr w eI cs rs) (hR : OI PR w eI R (ints z.refs)) (hd : ∀ k, PR k → ¬ Pr k) (h1 : ∀ k, Pr k → Pr' k) (h2 : ∀ k, PR k → Pr' k) : ORs Pr' w eI (cs ++ [z]) (rs ++ [(R, bc)]) := by
  have hl := h.len
  have g1 : ∀ {i : Nat} {x : LC} {r : Option Addr × Nat}, (cs ++ [z])[i]? = some x → (rs ++ [(R, bc)])[i]? = some r → (cs[i]? = some x ∧ rs[i]? = some r) ∨ (i = cs.length ∧ x = z ∧ r = (R, bc)) := by
    intro i x r hx hr
    by_cases hi : i < cs.length
    · rw [List.getElem?_append_left hi] at hx
      rw [List.getElem?_append_left (by omega)] at hr
      exact .inl ⟨hx, hr⟩
    · have hlt := (List.getElem?_eq_some_iff.1 hx).1
      simp only [List.length_append, List.length_cons, List.length_nil] at hlt
      have e0 : i = cs.length := by omega
      subst e0
      rw [List.getElem?_append_right (Nat.le_refl _)] at hx
      rw [List.getElem?_append_right (by omega)] at hr
      simp at hx
      simp [hl] at hr
      exact .inr ⟨rfl, hx.symm, hr.symm⟩
  have apart : ∀ (k : Nat) (x : LC) (r : Option Addr × Nat), cs[k]? = some x → rs[k]? = some r → x.refs ≠ [] → z.refs ≠ [] → r.1 ≠ R := fun k x r a1 a2 a3 a4 e0 => by
    obtain ⟨b1, _, e1, p1, _⟩ := h.own k x r a1 a2 (ints_ne.2 a3)
    obtain ⟨b2, _, e2, p2, _⟩ := hR (ints_ne.2 a4)
    rw [e0, e2] at e1
    cases e1
    exact hd _ p2 p1
  refine ⟨by simp [hl], fun i x r hx hr => ?_, fun i j x y r r' hx hy hr hr' hij n1 n2 => ?_⟩
  · rcases g1 hx hr with ⟨a, b⟩ | ⟨_, rfl, rfl⟩
    · exact (h.own i x r a b).weak h1
    · exact hR.weak h2
  · rcases g1 hx hr with ⟨a, b⟩ | ⟨i1, e1, e2⟩
    · rcases g1 hy hr' with ⟨a', b'⟩ | ⟨i2, e3, e4⟩
      · exact h.far i j x y r r' a a' b b' hij n1 n2
      · rw [e4]
        exact apart i x r a b n1 (by rw [← e3]; exact n2)
    · rcases g1 hy hr' with ⟨a', b'⟩ | ⟨i2, _, _⟩
      · rw [e2]
        exact fun e0 => apart j y r' a' b' n2 (by rw [← e1]; exact n1) e0.symm
      · omega
/-- A cell was appended; its references lie in a row of their own. -/
theorem XH.add (o : XH Pr w eC eI A B h rs c d) (hne : eC ≠ eI) (hR : OI PR w eI R (ints z.refs)) (hd : ∀ k, PR k → ¬ Pr k) (m : Mod (fun i => A = some ⟨i, 0, none⟩) w w')
    (X : OW Pr' w' eC 3 A' (h.cells.length + 1) c' (flatC h.cells rs ++ [.bool z.used, .int .i64 z.data, .slice R z.refs.length bc])) (h1 : ∀ k, Pr k → Pr' k) (h2 : ∀ k, PR k → Pr' k) :
    XH Pr' w' eC eI A' B ⟨h.cells ++ [z], h.roots⟩ (rs ++ [(R, bc)]) c' d := by
  have hOR := o.rows.app o.row hne m
  have hRt := o.roots.app o.row hne m
  have hR2 := hR.app o.row hne m
  refine ⟨hOR.snocD hR2 hd h1 h2, ?_, hRt.weak h1, fun i x r hx hr hn h4 => ?_, o.rd⟩
  · have e0 : flatC (h.cells ++ [z]) (rs ++ [(R, bc)]) = flatC h.cells rs ++ [.bool z.used, .int .i64 z.data, .slice R z.refs.length bc] := (flat_more o.rows.len).symm
    show OW Pr' w' eC 3 A' (h.cells ++ [z]).length c' _
    rw [e0, List.length_append]
    exact X
  · by_cases hi : i < h.cells.length
    · have hx2 : (h.cells ++ [z])[i]? = some x := hx
      rw [List.getElem?_append_left hi] at hx2
      rw [List.getElem?_append_left (by rw [o.rows.len]; exact hi)] at hr
      exact o.far i x r hx2 hr hn h4
    · have hlt := (List.getElem?_eq_some_iff.1 hx).1
      have hlt2 : i < (h.cells ++ [z]).length := hlt
      rw [List.length_append] at hlt2
      simp only [List.length_cons, List.length_nil] at hlt2
      have e0 : i = h.cells.length := by omega
      subst e0
      have hx2 : (h.cells ++ [z])[h.cells.length]? = some x := hx
      rw [List.getElem?_append_right (Nat.le_refl _)] at hx2
      rw [List.getElem?_append_right (by rw [o.rows.len]; exact Nat.le_refl _), o.rows.len] at hr
      simp at hx2 hr
      subst hx2
      subst hr
      intro e1
      obtain ⟨b1, _, e5, p1, _⟩ := o.roots (ints_ne.2 h4)
      obtain ⟨b2, _, e6, p2, _⟩ := hR (ints_ne.2 hn)
      have e7 : R = B := e1
      rw [e7, e5] at e6
      cases e6
      exact hd _ p2 p1
theorem XH.bare {xs : List Int} {n : Nat} (r : OW Pr w eI 1 B n d (ints xs)) : XH Pr w eC eI none B ⟨[], xs⟩ [] 0 d := ⟨ORs.nil _ _ _, OW.nil _ _ _ _, r.oi, fun i c q h => by simp at h, by
  have h1 := r.1
  rw [ints_len] at h1
  have h2 := r.cap
  show xs.length ≤ d
  omega⟩
end
end
/-! Poss -/
section
open Go Go.RowKit
/-- The cell that root i leads to has a reference number c. -/
def placeB (h : LH) (i c : Int) : Bool := match h.roots[i.toNat]? with
  | some r => decide (0 ≤ r) && decide (c < ((refsOf h.cells r.toNat).length : Int))
  | none => false
def rootB (h : LH) (i : Int) : Bool := match h.roots[i.toNat]? with
  | some r => decide (0 ≤ r)
  | none => false
def effectB (h : LH) (o : LCmd) : Bool := if o.op = 2 then placeB h o.b o.c else if o.op = 3 then placeB h o.a o.c else if o.op = 6 then rootB h o.a else true
def possB (h : LH) (o : LCmd) : Bool := validB h && (cvB o && effectB h o)
theorem possB_f1 {h : LH} {o : LCmd} (hv : validB h = false) : possB h o = false := by simp [possB, hv]
theorem possB_f2 {h : LH} {o : LCmd} (hv : cvB o = false) : possB h o = false := by simp [possB, hv]
theorem possB_t {h : LH} {o : LCmd} (hv : validB h = true) (hc : cvB o = true) : possB h o = effectB h o := by simp [possB, hv, hc]
theorem placeB_at {h : LH} {n : Nat} {c : Int} (hn : n < h.roots.length) : placeB h (n : Int) c = (decide (0 ≤ h.roots[n]) && decide (c < ((refsOf h.cells h.roots[n].toNat).length : Int))) := by simp [placeB, hn]
theorem placeB_neg {h : LH} {n : Nat} {c : Int} (hn : n < h.roots.length) (h0 : h.roots[n] < 0) : placeB h (n : Int) c = false := by
  rw [placeB_at hn]
  have : ¬ 0 ≤ h.roots[n] := by omega
  simp [this]
theorem placeB_pos {h : LH} {n m : Nat} {c : Int} (hn : n < h.roots.length) (h0 : h.roots[n] = (m : Int)) (hm : m < h.cells.length) : placeB h (n : Int) c = decide (c < (h.cells[m].refs.length : Int)) := by
  rw [placeB_at hn, h0]
  simp [refsOf_at hm]
theorem rootB_at {h : LH} {n : Nat} (hn : n < h.roots.length) : rootB h (n : Int) = decide (0 ≤ h.roots[n]) := by simp [rootB, hn]
theorem cvB_d0 {o : LCmd} (h : cvB o = true) : cvP o := of_decide_eq_true h
theorem valid_root {h : LH} (v : Valid h) {n : Nat} (hn : n < h.roots.length) (h0 : 0 ≤ h.roots[n]) : ∃ m : Nat, h.roots[n] = (m : Int) ∧ m < h.cells.length := by
  have := leadsB_lt (v.roots _ (List.getElem_mem hn)) h0
  exact ⟨h.roots[n].toNat, by omega, by omega⟩
end
/-! Stp -/
section
open Go
theorem leadsB_mono {cs cs' : List LC} (h : ∀ n, usedAt cs n = true → usedAt cs' n = true) {r : Int} (hr : leadsB cs r = true) : leadsB cs' r = true := by
  unfold leadsB at *
  by_cases h1 : r = -1
  · simp [h1]
  · simp only [h1, decide_false, Bool.false_or, Bool.and_eq_true, decide_eq_true_eq] at hr ⊢
    exact ⟨hr.1, h _ hr.2⟩
theorem usedAt_set {cs : List LC} {k : Nat} {c : LC} (hc : c.used = true) {n : Nat} (h : usedAt cs n = true) : usedAt (cs.set k c) n = true := by
  have hn := usedAt_lt h
  unfold usedAt at *
  by_cases hk : k = n
  · subst hk
    simp [hn, hc]
  · rw [List.getElem?_set_ne hk]
    exact h
theorem usedAt_app {cs : List LC} {c : LC} {n : Nat} (h : usedAt cs n = true) : usedAt (cs ++ [c]) n = true := by
  have hn := usedAt_lt h
  unfold usedAt at *
  rw [List.getElem?_append_left hn]
  exact h
theorem okP_mono {cs cs' : List LC} (h : ∀ n, usedAt cs n = true → usedAt cs' n = true) {c : LC} (hc : okP cs c) : okP cs' c := ⟨fun hu => by
  obtain ⟨h1, h2⟩ := hc.1 hu
  exact ⟨List.all_eq_true.2 fun r hr => leadsB_mono h (List.all_eq_true.1 h1 r hr), h2⟩, hc.2⟩
theorem valid_setRoot {h : LH} (v : Valid h) {k : Nat} {x : Int} (hx : leadsB h.cells x = true) : Valid ⟨h.cells, h.roots.set k x⟩ :=
  ⟨v.le, by show (h.roots.set k x).length = 4; rw [List.length_set]; exact v.roots4, v.cells, fun r hr => by
    rcases List.mem_or_eq_of_mem_set hr with hr | rfl
    · exact v.roots r hr
    · exact hx⟩
theorem valid_setCell {h : LH} (v : Valid h) {k : Nat} {c : LC} (hu : c.used = true) (hr : ∀ r ∈ c.refs, leadsB h.cells r = true) (hd : 0 ≤ c.data ∧ c.data ≤ 99) (h3 : c.refs.length ≤ 3) : Valid ⟨h.cells.set k c, h.roots⟩ := by
  have hm : ∀ n, usedAt h.cells n = true → usedAt (h.cells.set k c) n = true := fun n => usedAt_set hu
  refine ⟨by show (h.cells.set k c).length ≤ 40; rw [List.length_set]; exact v.le, v.roots4, fun n hn => ?_, fun r hr => leadsB_mono hm (v.roots r hr)⟩
  have hn2 : n < h.cells.length := by have : n < (h.cells.set k c).length := hn; rwa [List.length_set] at this
  show okP (h.cells.set k c) (h.cells.set k c)[n]
  rw [List.getElem_set]
  split
  · exact (okP_u hu).2 ⟨List.all_eq_true.2 fun r hr2 => leadsB_mono hm (hr r hr2), hd.1, hd.2, h3⟩
  · exact okP_mono hm (v.cells n hn2)
theorem valid_addCell {h : LH} (v : Valid h) (h40 : h.cells.length < 40) {c : LC} (hu : c.used = true) (hr : ∀ r ∈ c.refs, leadsB h.cells r = true) (hd : 0 ≤ c.data ∧ c.data ≤ 99) (h3 : c.refs.length ≤ 3) : Valid ⟨h.cells ++ [c], h.roots⟩ := by
  have hm : ∀ n, usedAt h.cells n = true → usedAt (h.cells ++ [c]) n = true := fun n => usedAt_app
  refine ⟨by show (h.cells ++ [c]).length ≤ 40; rw [List.length_append]; simp; omega, v.roots4, fun n hn => ?_, fun r hr => leadsB_mono hm (v.roots r hr)⟩
  show okP (h.cells ++ [c]) (h.cells ++ [c])[n]
  by_cases hn2 : n < h.cells.length
  · rw [List.getElem_append_left hn2]
    exact okP_mono hm (v.cells n hn2)
  · rw [List.getElem_append_right (by omega)]
    simp only [List.getElem_singleton]
    exact (okP_u hu).2 ⟨List.all_eq_true.2 fun r hr2 => leadsB_mono hm (hr r hr2), hd.1, hd.2, h3⟩
theorem leadsB_last {cs : List LC} {c : LC} (hu : c.used = true) : leadsB (cs ++ [c]) (cs.length : Int) = true := by
  rw [leadsB_at (by simp)]
  simpa using hu
theorem leadsB_put {cs : List LC} {k : Nat} {c : LC} (hk : k < cs.length) (hu : c.used = true) : leadsB (cs.set k c) (k : Int) = true := by
  rw [leadsB_at (by rw [List.length_set]; exact hk)]
  simpa using hu
theorem rep_leads (cs : List LC) (n : Nat) : ∀ r ∈ List.replicate n (-1 : Int), leadsB cs r = true := fun r hr => by
  rw [(List.mem_replicate.1 hr).2]
  exact leadsB_m1 _
/-- A new cell behind the last one. -/
theorem valid_new {h : LH} (v : Valid h) (h40 : h.cells.length < 40) {k n : Nat} {d : Int} (hd : 0 ≤ d ∧ d ≤ 99) (h3 : n ≤ 3) : Valid ⟨h.cells ++ [⟨true, d, List.replicate n (-1)⟩], h.roots.set k (h.cells.length : Int)⟩ :=
  valid_setRoot (h := ⟨h.cells ++ [⟨true, d, List.replicate n (-1)⟩], h.roots⟩) (valid_addCell v h40 rfl (rep_leads _ _) hd (by simp; omega)) (leadsB_last rfl)
/-- A new cell at a place. -/
theorem valid_newAt {h : LH} (v : Valid h) {p k n : Nat} (hp : p < h.cells.length) {d : Int} (hd : 0 ≤ d ∧ d ≤ 99) (h3 : n ≤ 3) : Valid ⟨h.cells.set p ⟨true, d, List.replicate n (-1)⟩, h.roots.set k (p : Int)⟩ :=
  valid_setRoot (h := ⟨h.cells.set p ⟨true, d, List.replicate n (-1)⟩, h.roots⟩) (valid_setCell v rfl (rep_leads _ _) hd (by simp; omega)) (leadsB_put hp rfl)
theorem root_used {h : LH} (v : Valid h) {n m : Nat} (hn : n < h.roots.length) (hm : h.roots[n] = (m : Int)) (hmN : m < h.cells.length) : h.cells[m].used = true := by
  have h1 := v.roots _ (List.getElem_mem hn)
  rw [hm, leadsB_at hmN] at h1
  exact h1
theorem valid_setRef {h : LH} (v : Valid h) {m j : Nat} {x : Int} (hm : m < h.cells.length) (hu : h.cells[m].used = true) (hx : leadsB h.cells x = true) : Valid ⟨h.cells.set m ⟨h.cells[m].used, h.cells[m].data, h.cells[m].refs.set j x⟩, h.roots⟩ := by
  have ho := (okP_u hu).1 (v.cells m hm)
  refine valid_setCell v hu (fun r hr => ?_) ⟨ho.2.1, ho.2.2.1⟩ (by show (h.cells[m].refs.set j x).length ≤ 3; rw [List.length_set]; exact ho.2.2.2)
  rcases List.mem_or_eq_of_mem_set hr with hr | rfl
  · exact List.all_eq_true.1 ho.1 r hr
  · exact hx
theorem valid_setData {h : LH} (v : Valid h) {m : Nat} {x : Int} (hm : m < h.cells.length) (hu : h.cells[m].used = true) (hx : 0 ≤ x ∧ x ≤ 99) : Valid ⟨h.cells.set m ⟨h.cells[m].used, x, h.cells[m].refs⟩, h.roots⟩ := by
  have ho := (okP_u hu).1 (v.cells m hm)
  exact valid_setCell v hu (fun r hr => List.all_eq_true.1 ho.1 r hr) hx ho.2.2.2
end
/-! Cyc -/
section
open Go
theorem SubC.trans {a b c : List LC} {ra rb rc : List (Option Addr × Nat)} (h1 : SubC a ra b rb) (h2 : SubC b rb c rc) : SubC a ra c rc := fun i x r hx hr hn => by
  obtain ⟨p, q⟩ := h1 i x r hx hr hn
  exact h2 i x r p q hn
end
/-! Walk -/
section
open Go
theorem Bnd.snoc {N n : Nat} {s : List Int} (h : Bnd N s) (hn : n < N) (hs : (n : Int) ∉ s) : Bnd N (s ++ [(n : Int)]) := by
  refine ⟨?_, fun x hx => ?_⟩
  · rw [List.nodup_append]
    refine ⟨h.1, by simp, ?_⟩
    intro a ha b hb
    simp only [List.mem_singleton] at hb
    subst hb
    rintro rfl
    exact hs ha
  · rcases List.mem_append.1 hx with hx | hx
    · exact h.2 x hx
    · simp only [List.mem_singleton] at hx
      omega
end
/-! Rea -/
section
open Go
theorem rB_iff {h : LH} (v : Valid h) {n : Nat} : rB h n = true ↔ Rch h.cells h.roots nn n := by
  unfold rB
  rw [decide_eq_true_eq]
  exact orderL_mem v.leads
theorem nn_nat (n : Nat) : nn (n : Int) = true := by simp [nn]
theorem rB_root {h : LH} (v : Valid h) {n : Nat} (hr : (n : Int) ∈ h.roots) : rB h n = true := (rB_iff v).2 (.root hr (nn_nat n))
theorem rB_step {h : LH} (v : Valid h) {m n : Nat} (hm : rB h m = true) (hr : (n : Int) ∈ refsOf h.cells m) : rB h n = true := (rB_iff v).2 (.step ((rB_iff v).1 hm) hr (nn_nat n))
theorem rB_lt {h : LH} (v : Valid h) {n : Nat} (hm : rB h n = true) : n < h.cells.length := ((rB_iff v).1 hm).lt v.leads
theorem reachV_at {h : LH} (hv : validB h = true) {n : Nat} (hn : n < (reachV h).length) : (reachV h)[n] = rB h n := by
  have e := rB_reach hv (n := n) (by rw [reachV_len hv] at hn; exact hn)
  rw [List.getElem?_eq_getElem hn] at e
  exact Option.some.inj e
theorem order_bnd {h : LH} (v : Valid h) : Bnd h.cells.length (orderL h.cells h.roots nn) := orderL_bnd v.leads
theorem rB_mem {h : LH} {n : Nat} : rB h n = true ↔ (n : Int) ∈ orderL h.cells h.roots nn := by unfold rB; rw [decide_eq_true_eq]
/-- t has all of s, and what is new in t leads on into t. -/
def Cl (cs : List LC) (s t : List Int) : Prop := (∀ x ∈ s, x ∈ t) ∧ ∀ n : Nat, (n : Int) ∈ t → (n : Int) ∉ s → ∀ y ∈ refsOf cs n, nn y = true → y ∈ t
theorem Cl.refl (cs : List LC) (s : List Int) : Cl cs s s := ⟨fun _ h => h, fun _ h hn => absurd h hn⟩
theorem Cl.trans {cs : List LC} {s t u : List Int} (h : Cl cs s t) (k : Cl cs t u) : Cl cs s u := ⟨fun x hx => k.1 x (h.1 x hx), fun n hn hs y hy ho => by
  by_cases ht : (n : Int) ∈ t
  · exact k.1 _ (h.2 n ht hs y hy ho)
  · exact k.2 n hn ht y hy ho⟩
theorem bnd_len_eq {N : Nat} {s t : List Int} (hs : Bnd N s) (ht : Bnd N t) (h : ∀ n : Nat, (n : Int) ∈ s ↔ (n : Int) ∈ t) : s.length = t.length := by
  rw [← cnt N s hs, ← cnt N t ht]
  congr 1
  apply List.filter_congr
  intro i _
  rw [decide_eq_decide]
  exact h i
theorem bfs_pre (cs : List LC) (ok : Int → Bool) : ∀ (f i : Nat) (s : List Int), ∃ t, bfs cs ok f i s = s ++ t
  | 0, _, s => ⟨[], by simp [bfs]⟩
  | f + 1, i, s => by
    unfold bfs
    split
    · exact ⟨[], by simp⟩
    · rename_i x _
      obtain ⟨t, ht⟩ := meet_pre ok (refsOf cs x.toNat) s
      obtain ⟨u, hu⟩ := bfs_pre cs ok f (i + 1) (meet ok s (refsOf cs x.toNat))
      exact ⟨t ++ u, by rw [hu, ht, List.append_assoc]⟩
theorem bfs_congr {cs cs' : List LC} {ok : Int → Bool} : ∀ (f i : Nat) (s : List Int), (∀ x ∈ bfs cs ok f i s, refsOf cs' x.toNat = refsOf cs x.toNat) → bfs cs' ok f i s = bfs cs ok f i s
  | 0, _, _, _ => rfl
  | f + 1, i, s, h => by
    unfold bfs at h ⊢
    split
    · rfl
    · rename_i x hx
      rw [hx] at h
      have hm : x ∈ s := List.mem_of_getElem? hx
      have e : refsOf cs' x.toNat = refsOf cs x.toNat := h x (by
        obtain ⟨t, ht⟩ := bfs_pre cs ok f (i + 1) (meet ok s (refsOf cs x.toNat))
        obtain ⟨u, hu⟩ := meet_pre ok (refsOf cs x.toNat) s
        show x ∈ bfs cs ok f (i + 1) (meet ok s (refsOf cs x.toNat))
        rw [ht, hu]
        simp [hm])
      rw [e]
      exact bfs_congr f (i + 1) _ h
/-- No cell that can be reached is freed. -/
def Spares (h : LH) (p : Nat → Bool) : Prop := ∀ n, rB h n = true → p n = false
theorem keeps_spares {h : LH} (v : Valid h) {p : Nat → Bool} (k : Keeps h p) : Spares h p := fun n hn => by
  have key : ∀ m, Rch h.cells h.roots nn m → p m = false := fun m hm => by
    induction hm with
    | @root n a b =>
      cases hp : p n with
      | false => rfl
      | true => exact absurd ⟨by omega, by simpa using hp⟩ (k.1 _ a)
    | @step m n _ a b ih =>
      cases hp : p n with
      | false => rfl
      | true => exact absurd ⟨by omega, by simpa using hp⟩ (k.2 m ih _ a)
  exact key n ((rB_iff v).1 hn)
theorem drop_order {h : LH} (v : Valid h) {p : Nat → Bool} (k : Spares h p) : orderL (dropH h p).cells (dropH h p).roots nn = orderL h.cells h.roots nn := by
  unfold orderL
  show bfs (dropC h.cells p) nn (dropC h.cells p).length 0 _ = _
  rw [dropC_len]
  refine bfs_congr _ _ _ fun x hx => ?_
  obtain ⟨n, rfl⟩ := Int.eq_ofNat_of_zero_le ((order_bnd v).2 x hx).1
  rw [refsOf_drop, if_neg]
  rw [Int.toNat_natCast, k n (rB_mem.2 hx)]
  decide
theorem flatMap_same {α β : Type} {l : List α} {f g : α → List β} (h : ∀ x ∈ l, f x = g x) : l.flatMap f = l.flatMap g := by
  induction l with
  | nil => rfl
  | cons a l ih => rw [List.flatMap_cons, List.flatMap_cons, h a (by simp), ih (fun x hx => h x (by simp [hx]))]
theorem drop_view {h : LH} (v : Valid h) {p : Nat → Bool} (k : Keeps h p) : viewV (dropH h p) = viewV h := by
  have hs := keeps_spares v k
  rw [viewV_t ((valid_drop v p).2 k), viewV_t (valid_iff.2 v), drop_order v hs]
  unfold viewL
  congr 1
  apply flatMap_same
  intro x hx
  obtain ⟨n, rfl⟩ := Int.eq_ofNat_of_zero_le ((order_bnd v).2 x hx).1
  have hn : n < h.cells.length := by have := ((order_bnd v).2 _ hx).2; omega
  rw [seen1_at hn, seen1_at (by show n < (dropC h.cells p).length; rw [dropC_len]; exact hn)]
  have e : (dropH h p).cells[n]'(by show n < (dropC h.cells p).length; rw [dropC_len]; exact hn) = h.cells[n] := by
    show (dropC h.cells p)[n]'(by rw [dropC_len]; exact hn) = _
    rw [dropC_at, if_neg (by rw [hs n (rB_mem.2 hx)]; decide)]
  rw [e]
theorem sameV_of {a b : LH} (ha : validB a = true) (hb : validB b = true) (h : viewV a = viewV b) : sameV a b = true := by rw [sameV_t ha hb, h]; simp
/-- What cannot be reached is what the marks leave out. -/
theorem sweepP_reach {h : LH} (hv : validB h = true) {i : Nat} (hi : i < h.cells.length) : sweepP (reachV h) i = !rB h i := by
  unfold sweepP
  rw [inB_at (by rw [reachV_len hv]; exact hi), reachV_at hv]
theorem spares_reach {h : LH} (v : Valid h) : Spares h (sweepP (reachV h)) := fun n hn => by rw [sweepP_reach (valid_iff.2 v) (rB_lt v hn), hn]; rfl
theorem keeps_reach {h : LH} (v : Valid h) : Keeps h (sweepP (reachV h)) := by
  have hv := valid_iff.2 v
  refine ⟨fun r hr hc => ?_, fun n hn r hr hc => ?_⟩
  · obtain ⟨m, rfl⟩ := Int.eq_ofNat_of_zero_le hc.1
    have h1 := rB_root v hr
    rw [Int.toNat_natCast, spares_reach v m h1] at hc
    exact absurd hc.2 (by decide)
  · obtain ⟨m, rfl⟩ := Int.eq_ofNat_of_zero_le hc.1
    by_cases hN : n < h.cells.length
    · rw [sweepP_reach hv hN] at hn
      have h1 := rB_step v (by simpa using hn) hr
      rw [Int.toNat_natCast, spares_reach v m h1] at hc
      exact absurd hc.2 (by decide)
    · simp [refsOf, List.getElem?_eq_none (by omega : h.cells.length ≤ n)] at hr
end
/-! Gat -/
section
open Go
/-- o lists the cells that can be reached, each once. -/
structure Cov (h : LH) (o : List Int) : Prop where
  v : Valid h
  bnd : Bnd h.cells.length o
  mem : ∀ n : Nat, (n : Int) ∈ o ↔ rB h n = true
end
/-! Hof -/
section
open Go
theorem cntP_sel (N : Nat) (p : Nat → Bool) : (selL N p).length = cntP p N := by
  unfold selL cntP
  rw [List.length_map, List.countP_eq_length_filter]
theorem countB_cnt {bs : List Bool} {p : Nat → Bool} {N : Nat} (hl : bs.length = N) (h : ∀ (i : Nat) (hi : i < bs.length), bs[i] = p i) : countB bs = cntP p N := by
  have e : bs = (List.range N).map p := by
    apply List.ext_getElem
    · simp [hl]
    · intro i h1 h2
      rw [h i h1]
      simp
  unfold countB cntP
  rw [e, List.countP_map]
  rfl
theorem countB_used (cs : List LC) : countB (usedL cs) = cntP (usedAt cs) cs.length := countB_cnt (by simp [usedL]) (fun i hi => by
  have hi2 : i < cs.length := by simpa [usedL] using hi
  rw [usedAt_at hi2]
  simp [usedL])
theorem countB_reach {h : LH} (hv : validB h = true) : countB (reachV h) = cntP (rB h) h.cells.length := countB_cnt (reachV_len hv) (fun _ hi => reachV_at hv hi)
theorem order_cnt {h : LH} (v : Valid h) : (orderL h.cells h.roots nn).length = cntP (rB h) h.cells.length := by
  rw [← cntP_sel]
  exact bnd_len_eq (order_bnd v) (selL_bnd _ _) fun n => by
    rw [← rB_mem, selL_mem]
    constructor
    · intro hn
      exact ⟨n, rfl, rB_lt v hn, hn⟩
    · rintro ⟨m, e, _, hm⟩
      have : n = m := by exact Int.ofNat.inj e
      subst this
      exact hm
theorem cntP_full {p : Nat → Bool} {N : Nat} (h : ∀ i, i < N → p i = true) : cntP p N = N := by
  induction N with
  | zero => rfl
  | succ N ih => rw [cntP_yes (h N (by omega)), ih (fun i hi => h i (by omega))]
theorem cntP_none {p : Nat → Bool} {N : Nat} (h : ∀ i, i < N → p i = false) : cntP p N = 0 := by
  induction N with
  | zero => rfl
  | succ N ih => rw [cntP_no (h N (by omega)), ih (fun i hi => h i (by omega))]
theorem usedV_eq {h : LH} (v : Valid h) : usedV h = (((cntP (usedAt h.cells) h.cells.length : Nat) : Int), ((cntP (rB h) h.cells.length : Nat) : Int)) := by
  have hv := valid_iff.2 v
  rw [usedV_t hv, countB_used, countB_reach hv]
theorem heapOf_true {xs : List Int} (h : (heapOfV xs).2 = true) : ∃ cs, 4 ≤ xs.length ∧ parse (xs.drop 4) = some cs ∧ validB ⟨cs, xs.take 4⟩ = true ∧ viewV ⟨cs, xs.take 4⟩ = xs ∧ (heapOfV xs).1 = ⟨cs, xs.take 4⟩ := by
  unfold heapOfV at h ⊢
  split at h
  · rename_i h4
    cases hp : parse (xs.drop 4) with
    | none => rw [hp] at h; simp at h
    | some cs =>
      rw [hp] at h
      by_cases ho : okV xs cs = true
      · have ho2 := ho
        unfold okV at ho2
        rw [Bool.and_eq_true, decide_eq_true_eq] at ho2
        refine ⟨cs, h4, rfl, ho2.1, ho2.2, ?_⟩
        rw [if_pos h4]
        show (if okV xs cs = true then ((⟨cs, xs.take 4⟩ : LH), true) else (nilH, false)).1 = _
        rw [if_pos ho]
      · have h' : (if okV xs cs = true then ((⟨cs, xs.take 4⟩ : LH), true) else (nilH, false)).2 = true := h
        rw [if_neg ho] at h'
        cases h'
  · cases h
theorem rsum_cons (c : LC) (cs : List LC) : rsum (c :: cs) (c :: cs).length = c.refs.length + rsum cs cs.length := by
  unfold rsum
  rw [List.take_length, List.take_length, List.map_cons, List.sum_cons]
theorem parse_wt : ∀ (f : Nat) (xs : List Int) (cs : List LC), parseF f xs = some cs → (∀ c ∈ cs, c.used = true) ∧ xs.length = 2 * cs.length + rsum cs cs.length
  | f, [], cs, h => by
    have : cs = [] := by cases f <;> simpa [parseF] using h.symm
    subst this
    exact ⟨by simp, rfl⟩
  | f, [x], cs, h => by cases f <;> simp [parseF] at h
  | 0, _ :: _ :: _, cs, h => by simp [parseF] at h
  | f + 1, d :: n :: r, cs, h => by
    unfold parseF at h
    split at h
    · rename_i hn
      obtain ⟨l, hl, rfl⟩ := Option.map_eq_some_iff.1 h
      obtain ⟨h1, h2⟩ := parse_wt f _ l hl
      refine ⟨fun c hc => ?_, ?_⟩
      · rcases List.mem_cons.1 hc with rfl | hc
        · rfl
        · exact h1 c hc
      · rw [rsum_cons]
        rw [List.length_drop] at h2
        simp only [List.length_cons, List.length_take]
        omega
    · cases h
theorem erase_sum (g : Int → Nat) {x : Int} : ∀ {s : List Int}, x ∈ s → g x + ((s.erase x).map g).sum = (s.map g).sum
  | [], h => by cases h
  | y :: s, h => by
    by_cases hy : y = x
    · subst hy
      simp
    · have hm : x ∈ s := by
        rcases List.mem_cons.1 h with e | h
        · exact absurd e.symm hy
        · exact h
      have ih := erase_sum g hm
      have e : (y :: s).erase x = y :: s.erase x := List.erase_cons_tail (by simpa using hy)
      rw [e, List.map_cons, List.sum_cons, List.map_cons, List.sum_cons]
      omega
theorem rsumO_le (cs : List LC) : ∀ (k : Nat), k ≤ cs.length → ∀ (s : List Int), Bnd k s → rsumO cs s ≤ rsum cs k
  | 0, _, s, hb => by
    have := hb.len
    rw [List.eq_nil_of_length_eq_zero (by omega : s.length = 0)]
    simp [rsumO]
  | k + 1, hk, s, hb => by
    rw [rsum_succ (by omega)]
    have hb2 : Bnd k (s.erase (k : Int)) := ⟨hb.1.erase _, fun x hx => by
      have h3 := (hb.1.mem_erase_iff).1 hx
      have h4 := hb.2 x h3.2
      have h5 := h3.1
      omega⟩
    have ih := rsumO_le cs k (by omega) _ hb2
    by_cases hm : (k : Int) ∈ s
    · have e := erase_sum (fun x => (refsOf cs x.toNat).length) hm
      unfold rsumO at ih ⊢
      rw [Int.toNat_natCast, refsOf_at (by omega)] at e
      omega
    · rw [List.erase_of_not_mem hm] at ih
      omega
theorem viewL_len {h : LH} {o l : List Int} (hl : ∀ x ∈ l, 0 ≤ x ∧ x < (h.cells.length : Int)) : (l.flatMap (seen1 h.cells o)).length = 2 * l.length + rsumO h.cells l := by
  induction l with
  | nil => rfl
  | cons x l ih =>
    have ih := ih (fun y hy => hl y (by simp [hy]))
    obtain ⟨n, rfl⟩ := Int.eq_ofNat_of_zero_le (hl x (by simp)).1
    have hn : n < h.cells.length := by have := (hl _ (by simp : (n : Int) ∈ (n : Int) :: l)).2; omega
    rw [List.flatMap_cons, List.length_append, ih, seen1_at hn]
    unfold rsumO
    rw [List.map_cons, List.sum_cons, Int.toNat_natCast, refsOf_at hn]
    simp
    omega
/-- All cells of the heap of a view are used, and can be reached. -/
theorem heapOf_all {xs : List Int} (h : (heapOfV xs).2 = true) : Valid (heapOfV xs).1 ∧ viewV (heapOfV xs).1 = xs ∧ usedV (heapOfV xs).1 = (((heapOfV xs).1.cells.length : Int), ((heapOfV xs).1.cells.length : Int)) := by
  obtain ⟨cs, h4, hp, hv, hw, e⟩ := heapOf_true h
  rw [e]
  have v := valid_iff.1 hv
  refine ⟨v, hw, ?_⟩
  obtain ⟨hu, hln⟩ := parse_wt _ _ _ hp
  have hb := order_bnd v
  have hlen : xs.length = 4 + (2 * (orderL cs (xs.take 4) nn).length + rsumO cs (orderL cs (xs.take 4) nn)) := by
    have e1 := congrArg List.length hw
    rw [viewV_t hv] at e1
    unfold viewL at e1
    rw [List.length_append, viewL_len hb.2, List.length_map] at e1
    have hr := v.roots4
    have e2 : (LH.mk cs (xs.take 4)).cells = cs := rfl
    have e3 : (LH.mk cs (xs.take 4)).roots = xs.take 4 := rfl
    rw [e2, e3] at e1
    rw [e3] at hr
    omega
  rw [List.length_drop] at hln
  have hle := rsumO_le cs cs.length (Nat.le_refl _) _ hb
  have h40 := hb.len
  have eN : (orderL cs (xs.take 4) nn).length = cs.length := by
    have e2 : (LH.mk cs (xs.take 4)).cells = cs := rfl
    have e3 : (LH.mk cs (xs.take 4)).roots = xs.take 4 := rfl
    rw [e2, e3] at hle h40
    omega
  rw [usedV_eq v]
  have h1 : cntP (usedAt cs) cs.length = cs.length := cntP_full fun i hi => by rw [usedAt_at hi]; exact hu _ (List.getElem_mem hi)
  have h2 := order_cnt v
  have h2' : cntP (rB ⟨cs, xs.take 4⟩) cs.length = cs.length := h2.symm.trans eN
  show (((cntP (usedAt cs) cs.length : Nat) : Int), ((cntP (rB ⟨cs, xs.take 4⟩) cs.length : Nat) : Int)) = ((cs.length : Int), (cs.length : Int))
  rw [h1, h2']
end
/-! Col -/
section
open Go
theorem drop_twice (h : LH) (p : Nat → Bool) : dropH (dropH h p) p = dropH h p := by
  unfold dropH
  congr 1
  apply List.ext_getElem
  · rw [dropC_len]
  · intro k h1 h2
    rw [dropC_at]
    split
    · rename_i hp
      rw [dropC_at, if_pos hp]
    · rfl
def sweptH (h : LH) : LH := dropH h (sweepP (reachV h))
theorem swept_eq {h : LH} (v : Valid h) : sweepV h (reachV h) = (sweptH h, ((cntP (leakP h) h.cells.length : Nat) : Int)) := by
  have hv := valid_iff.2 v
  rw [sweepV_t hv (reachV_len hv) ((valid_drop v _).2 (keeps_reach v))]
  have : cntP (sweepN h (reachV h)) h.cells.length = cntP (leakP h) h.cells.length := cntP_congr fun i hi => by
    unfold sweepN leakP
    rw [sweepP_reach hv hi]
  rw [this]
  rfl
theorem swept_valid {h : LH} (v : Valid h) : Valid (sweptH h) := valid_iff.1 ((valid_drop v _).2 (keeps_reach v))
end
/-! Sm -/
section
open Go
/-- At most 40 cells, each with at most three references; four roots. -/
structure Sm (h : LH) : Prop where
  le : h.cells.length ≤ 40
  three : ∀ c ∈ h.cells, c.refs.length ≤ 3
  four : h.roots.length = 4
theorem Valid.sm {h : LH} (v : Valid h) : Sm h := ⟨v.le, fun c hc => by
  obtain ⟨n, hn, rfl⟩ := List.getElem_of_mem hc
  exact v.refs3 hn, v.roots4⟩
theorem sm_of {h : LH} (h1 : h.cells.length ≤ 41) (h2 : ∀ c ∈ h.cells, c.refs.length ≤ 3) (h3 : h.roots.length ≤ 4) : hsize h ≤ 300 := by
  have := rsum_le3 h.cells h.cells.length h2
  unfold hsize
  omega
theorem Sm.size {h : LH} (s : Sm h) : hsize h ≤ 300 := sm_of (by have := s.le; omega) s.three (by rw [s.four]; omega)
theorem Sm.rest {h : LH} (s : Sm h) : hsize ⟨h.cells, h.roots.drop 1⟩ ≤ 300 := sm_of (by have := s.le; show h.cells.length ≤ 41; omega) s.three (by show (h.roots.drop 1).length ≤ 4; rw [List.length_drop, s.four]; omega)
theorem Sm.root {h : LH} (s : Sm h) (k : Nat) (x : Int) : hsize ⟨h.cells, h.roots.set k x⟩ ≤ 300 := sm_of (by have := s.le; show h.cells.length ≤ 41; omega) s.three (by show (h.roots.set k x).length ≤ 4; rw [List.length_set, s.four]; omega)
theorem Sm.more {h : LH} (s : Sm h) {z : LC} (hz : z.refs.length ≤ 3) : hsize ⟨h.cells ++ [z], h.roots⟩ ≤ 300 := sm_of (by have := s.le; show (h.cells ++ [z]).length ≤ 41; rw [List.length_append]; simp; omega) (fun c hc => by
  rcases List.mem_append.1 (show c ∈ h.cells ++ [z] from hc) with hc | hc
  · exact s.three c hc
  · simp only [List.mem_singleton] at hc
    rw [hc]
    exact hz) (by show h.roots.length ≤ 4; rw [s.four]; omega)
theorem Sm.ref {h : LH} (s : Sm h) {i : Nat} (hi : i < h.cells.length) (j : Nat) (x : Int) : Sm ⟨h.cells.set i ⟨h.cells[i].used, h.cells[i].data, h.cells[i].refs.set j x⟩, h.roots⟩ := ⟨by show (h.cells.set i _).length ≤ 40; rw [List.length_set]; exact s.le, fun c hc => by
  rcases List.mem_or_eq_of_mem_set (show c ∈ h.cells.set i _ from hc) with hc | rfl
  · exact s.three c hc
  · show (h.cells[i].refs.set j x).length ≤ 3
    rw [List.length_set]
    exact s.three _ (List.getElem_mem hi), s.four⟩
theorem Sm.swept {h : LH} (v : Valid h) : Sm (sweepV h (reachV h)).1 := by
  rw [swept_eq v]
  exact (swept_valid v).sm
theorem Blk.pickI {w : World} {b : Nat} {e : TypeId} {l : List Int} {k : Nat} (B : Blk w b e (ints l).toArray) (hk : k < l.length) : ∃ x : Int, w.cell? ⟨b, 0 + k * 1, none⟩ = some (.int .i64 x) := by
  refine ⟨l[k], ?_⟩
  rw [Nat.zero_add, Nat.mul_one]
  exact B.at (by rw [List.getElem?_toArray]; exact ints_get (List.getElem?_eq_getElem hk))
theorem flatO_last (l : List LCmd) (o : LCmd) : flatO (l ++ [o]) = flatO l ++ cmdC o := by rw [flatO_app, flatO, flatO, List.append_nil]
theorem flatO_take (l : List LCmd) (k : Nat) : (flatO l).take (k * 4) = flatO (l.take k) := by
  by_cases hk : k ≤ l.length
  · have e : flatO l = flatO (l.take k) ++ flatO (l.drop k) := by rw [← flatO_app, List.take_append_drop]
    rw [e, List.take_left']
    rw [flatO_len, List.length_take]
    omega
  · rw [List.take_of_length_le (by rw [flatO_len]; omega), List.take_of_length_le (by omega)]
theorem flatO_rep (o : LCmd) : ∀ n : Nat, flatO (List.replicate n o) = zeros (cmdC o) n
  | 0 => rfl
  | n + 1 => by rw [List.replicate_succ, flatO, flatO_rep o n]; rfl
theorem RO.of_ow {Pr : Nat → Prop} {w : World} {e : TypeId} {A : Option Addr} {n cap : Nat} {l : List LCmd} (O : OW Pr w e 4 A n cap (flatO l)) : RO Pr w A l := fun k o hk => by
  have hl := (List.getElem?_eq_some_iff.1 hk).1
  obtain ⟨b, post, rfl, hp, hB⟩ := O.blk (fun e0 => by
    have := flatO_len l
    rw [e0] at this
    simp at this
    omega)
  exact RO.of_blk hB hp k o hk
theorem all_snoc {α : Type} {p : α → Bool} {l : List α} {o : α} (h : l.all p = true) (ho : p o = true) : (l ++ [o]).all p = true := by
  rw [List.all_append, h]
  simp [ho]
end
/-! WalkDp -/
section
open Go Go.RowKit
attribute [local irreducible] wpList wpAnyH Code.wp dOp
set_option maxHeartbeats 1000000 in
set_option maxRecDepth 20000 in
theorem spec_l20Program_c (bR p : Nat) (n : Int) (w : World) (RD : Rd w bR p) (hp : p ≤ 800000) (hn : n ≤ 9223372036854775807) :
    Calls Try.prog 106 #[.pointer (some ⟨bR, 0, none⟩), .int .i64 n] w (Ret fun v w' => ∃ (l : List LCmd) (A1 : Option Addr) (q cap p2 : Nat), v = .slice A1 q cap ∧ q = l.length ∧ q ≤ cap ∧ l.length ≤ 41 ∧ (n ≤ 0 → csB l = true) ∧ p2 ≤ p + 700 ∧ RO (fun i => w.heap.size ≤ i) w' A1 l ∧ Rd w' bR p2 ∧ Mod (fun i => i = bR) w w') := by
 have lbR := RD.lt
 obtain ⟨z0, hz0⟩ : ∃ x, x = w.heap.size := ⟨_, rfl⟩
 refine enter Try.func106 rfl Try.ntmps106 (L := [_,_,_,_,_,_,_,_,_,_,_,_,_,_,_,_,_,_,_,_,_,_,_,_,_,_,_,_,_,_,_,_,_,_,_,_]) rfl ?_
 have G := Mod.refl (fun i => i = bR) w
 refine wp_seq_k fun K1 hK1 => ?_
 refine Sb 36 rfl ?_  -- 0
 refine S_val (Y_assign rfl) ?_
 refine S_nl rfl rfl ?_
 refine th_n (hK1 _ _ ?_)
 clear hK1 K1
 refine wp_seq_k fun K2 hK2 => ?_
 refine Sb 36 rfl ?_  -- 1
 refine S_bs0 Try.underlying120 sz133 ?_
 intro b1 w1 fb1 g1 B1
 have lb1 := B1.lt
 replace RD := RD.grow g1
 replace G := G.grow g1
 have zg1 := g1.size
 refine S_val (Y_assign rfl) ?_
 refine S_nl rfl rfl ?_
 refine th_n (hK2 _ _ ?_)
 clear hK2 K2
 refine wp_seq_k fun K3 hK3 => ?_
 refine wp_seq_k fun K4 hK4 => ?_
 refine Sb 36 rfl ?_  -- 2
 refine S_val (Y_move rfl) ?_
 refine S_call rfl en69 (spec_l20Rd_pick_c _ _ _ _ RD (by omega) (by omega)) ?_  -- k1 (*spec.l20Rd).pick
 rintro v2 w2 ⟨k2, rfl, hk2, RD2, m2⟩
 obtain ⟨k0, rfl⟩ : ∃ x, x = k2 := ⟨_, rfl⟩
 have hk0 := hk2 (by decide)
 replace RD := RD2
 clear RD2
 replace G := Mod.trans' G m2 (fun _ h _ => h) (fun i h hl => by first | exact h | omega | (dsimp only at h ⊢; omega))
 replace B1 := B1.md m2
 have zm2 := m2.size
 refine S_val (Y_assign rfl) ?_
 refine S_nl rfl rfl ?_
 refine th_n (hK4 _ _ ?_)
 clear hK4 K4
 refine wp_block ?_
 have O1 : OW (fun i => w.heap.size ≤ i) w2 133 4 (some ⟨b1, 0, none⟩) 0 0 (flatO []) := OW.of_blk B1 rfl (by decide) (by first | omega | (dsimp only; omega))
 go_loopw [5, 6] (fun u5 u6 wr => (∃ (k q cap pp : Nat) (A1 : Option Addr) (l : List LCmd), u6 = .int .i64 k ∧ u5 = .slice A1 q cap ∧ q = l.length ∧ l.length + k ≤ 40 ∧ l.all cvB = true ∧ pp ≤ p + 1 + 16 * l.length ∧ Rd wr bR pp ∧ OW (fun i => w.heap.size ≤ i) wr 133 4 A1 q cap (flatO l)) ∧ Mod (fun i => i = bR ∨ w.heap.size ≤ i) w2 wr) (fun u5 u6 wr => (intOf u6).toNat)  -- L1
 case atStart =>
  refine ⟨?_, Mod.refl _ _⟩
  exact ⟨k0, 0, 0, p + 1, _, [], rfl, rfl, rfl, by simp; omega, rfl, by omega, RD, O1⟩
 case round =>
  obtain ⟨w3, rfl⟩ : ∃ x : World, x = wr := ⟨_, rfl⟩
  obtain ⟨hrel, g3⟩ := hrel
  clear O1
  clear RD
  replace G := Mod.trans' G g3 (fun _ h _ => h) (fun i h hl => by first | exact h | omega | (dsimp only at h ⊢; omega))
  have zg3 := g3.size
  obtain ⟨k, q1, cap1, pp, A1, l, rfl, rfl, hq1, hlk, hall, hpp, RD, O1⟩ := hrel
  have GL3 := g3
  refine wp_seq_k fun K5 hK5 => ?_
  refine wp_seq_k fun K6 hK6 => ?_
  refine Sb 36 rfl ?_  -- 3
  refine S_val (Y_move rfl) ?_
  refine S_val (Y_gtr rfl rfl) ?_
  refine S_nl rfl rfl ?_
  refine th_n (hK6 _ _ ?_)
  clear hK6 K6
  refine S_if rfl (fun hb1 => ?_) (fun hb1 => ?_)  -- c1
  · -- c1T
   replace hb1 := nb_tt hb1
   have hk0 : 0 < k := by omega
   refine wp_skip ?_
   refine th_n (hK5 _ _ ?_)
   clear hK5 K5
   refine wp_seq_k fun K7 hK7 => ?_
   refine wp_block ?_
   refine Sb 36 rfl ?_  -- 5
   refine S_val (Y_move rfl) ?_
   refine S_val (Y_move rfl) ?_
   refine S_call rfl en121 (spec_l20Command_c _ _ _ _ RD (by omega) (by omega)) ?_  -- k2 spec.l20Command
   rintro v4 w4 ⟨o4, p4, rfl, ho4, hp4, RD4, m4⟩
   obtain ⟨oN, rfl⟩ : ∃ x, x = o4 := ⟨_, rfl⟩
   have hoN := ho4
   have hpN := hp4
   replace RD := RD4
   clear RD4
   replace G := Mod.trans' G m4 (fun _ h _ => h) (fun i h hl => by first | exact h | omega | (dsimp only at h ⊢; omega))
   replace GL3 := GL3.trn m4
   replace O1 := O1.md m4
   have zm4 := m4.size
   refine S_bs1 (cs := [_, _, _, _]) Try.underlying120 zr133 sz133 rfl rfl rfl ?_
   intro b5 w5 fb5 g5 B5
   have lb5 := B5.lt
   replace O1 := O1.grow g5
   replace RD := RD.grow g5
   replace G := G.grow g5
   replace GL3 := GL3.grow g5
   have zg5 := g5.size
   refine S_app Try.underlying120 zr133 sz133 by133 rfl rfl O1 rfl (Src.blk B5) (by simp [Value.oneCell', cmdC]) (by omega) (Pr' := (fun i => w.heap.size ≤ i)) (fun i hi => by first | exact hi | omega | (dsimp only at hi ⊢; omega)) (by first | omega | (dsimp only; omega)) ?_
   intro A6 cap6 w6 X6 m6
   replace O1 := X6
   clear X6
   replace G := Mod.trans' G m6 (fun _ h _ => h) (fun i h hl => by first | exact h | omega | (dsimp only at h ⊢; omega))
   replace GL3 := GL3.trn m6
   replace RD := RD.md m6
   have zm6 := m6.size
   replace O1 : OW (fun i => w.heap.size ≤ i) w6 133 4 A6 (q1 + 1) cap6 (flatO (l ++ [oN])) := by rw [flatO_last]; exact O1
   refine S_val (Y_assign rfl) ?_
   refine S_nl rfl rfl ?_
   refine ib_n ?_
   refine th_n (hK7 _ _ ?_)
   clear hK7 K7
   refine Sb 36 rfl ?_  -- 4
   refine S_val (Y_move rfl) ?_
   refine S_val (Y_sub (c := ((k - 1 : Nat) : Int)) rfl rfl (by omega) (by omega) (by omega)) ?_
   refine S_val (Y_assign rfl) ?_
   refine S_nl rfl rfl ?_
   refine th_n ?_
   go_roundw  -- e1 of L1
   case rel =>
    refine ⟨?_, GL3⟩
    exact ⟨k - 1, _, _, _, _, l ++ [oN], rfl, rfl, by rw [hq1, List.length_append]; rfl, by rw [List.length_append]; simp; omega, all_snoc hall (hoN (by decide)), by rw [List.length_append]; simp; omega, RD, O1⟩
   case measure =>
    exact dec_nat (by omega)
  · -- c1F
   replace hb1 := nb_tf hb1
   have hcs0 : csB l = true := by unfold csB; rw [decide_eq_true_eq]; exact ⟨by omega, hall⟩
   have hqc := O1.cap
   have hl40 : l.length ≤ 41 := by omega
   obtain ⟨lF, hlF⟩ : ∃ x, x = l := ⟨_, rfl⟩
   rw [← hlF] at hcs0 hl40 O1 hq1
   have hcsF : n ≤ 0 → csB lF = true := fun _ => hcs0
   refine wp_exit ?_
   refine th_x ?_
   try clear GL3
   refine th_x ?_
   refine ib_e ?_
   refine th_n (hK3 _ _ ?_)
   clear hK5 K5 hK3 K3
   refine wp_seq_k fun K8 hK8 => ?_
   refine wp_seq_k fun K9 hK9 => ?_
   refine Sb 36 rfl ?_  -- 6
   refine S_val (Y_move rfl) ?_
   refine S_val (Y_move rfl) ?_
   refine S_call rfl en73 (spec_l20Rd_odd_c _ _ _ _ RD (by omega) (by omega)) ?_  -- k3 (*spec.l20Rd).odd
   rintro v7 w7 ⟨r7, p7, rfl, hr7, hp7, RD7, m7⟩
   obtain ⟨r9, rfl⟩ : ∃ x, x = r7 := ⟨_, rfl⟩
   have hr9 := hr7
   replace RD := RD7
   clear RD7
   replace G := Mod.trans' G m7 (fun _ h _ => h) (fun i h hl => by first | exact h | omega | (dsimp only at h ⊢; omega))
   replace O1 := O1.md m7
   have zm7 := m7.size
   refine S_nl rfl rfl ?_
   refine th_n (hK9 _ _ ?_)
   clear hK9 K9
   refine S_if rfl (fun hb2 => ?_) (fun hb2 => ?_)  -- c2
   · -- c2T
    first | with_reducible (replace hb2 := nb_nt hb2) | with_reducible (replace hb2 := nb_tt hb2) | with_reducible (replace hb2 := nb_bt hb2) | skip
    refine wp_seq_k fun K10 hK10 => ?_
    refine Sb 36 rfl ?_  -- 7
    refine S_val (Y_move rfl) ?_
    refine S_call rfl en69 (spec_l20Rd_pick_c _ _ _ _ RD (by omega) (by omega)) ?_  -- k4 (*spec.l20Rd).pick
    rintro v8 w8 ⟨k8, rfl, hk8, RD8, m8⟩
    obtain ⟨k1, rfl⟩ : ∃ x, x = k8 := ⟨_, rfl⟩
    have hk1 := hk8 (by decide)
    replace RD := RD8
    clear RD8
    replace G := Mod.trans' G m8 (fun _ h _ => h) (fun i h hl => by first | exact h | omega | (dsimp only at h ⊢; omega))
    replace O1 := O1.md m8
    have zm8 := m8.size
    refine S_val (Y_eql rfl rfl) ?_
    refine S_nl rfl rfl ?_
    refine th_n (hK10 _ _ ?_)
    clear hK10 K10
    refine S_if rfl (fun hb3 => ?_) (fun hb3 => ?_)  -- c3
    · -- c3T
     replace hb3 := nb_tt hb3
     refine D_start 10 36 (fun w => Mod (fun i => i = bR ∨ z0 ≤ i) w) follows rfl rfl ?_  -- d1 r8
     intro w9 g9
     replace O1 := O1.grow g9
     replace RD := RD.grow g9
     replace G := G.grow g9
     have zg9 := g9.size
     have GS9 := Mod.refl (fun i => i = bR ∨ z0 ≤ i) w9
     refine Dq (i := 0) rfl GS9 (fun _ _ => Y_move rfl) ?_
     refine Dq (i := 1) rfl GS9 (fun _ _ => Y_move rfl) ?_
     refine Dq (i := 2) rfl GS9 (fun _ _ => Y_len Try.underlying120 rfl) ?_
     refine Dq (i := 5) rfl GS9 (fun _ _ => Y_move rfl) ?_
     refine D_2 (i := 3) (j := 6) (by kernel_rfl) ?_ ?_
     · -- operation 3 comes up
      refine E_val (i := 3) rfl (Y_minN (b := 9) rfl rfl) GS9 ?_
      refine Dq (i := 4) rfl GS9 (fun _ _ => Y_sliceH Try.underlying120 sz133 rfl (j := min q1 9) rfl (by omega)) ?_
      refine D_1 (i := 6) (by kernel_rfl) ?_
      refine E_call rfl rfl en121 (spec_l20Command_c _ _ _ _ RD (by omega) (by omega)) ?_  -- k5 spec.l20Command
      rintro v11 w11 ⟨o11, p11, rfl, ho11, hp11, RD11, m11⟩
      obtain ⟨oN, rfl⟩ : ∃ x, x = o11 := ⟨_, rfl⟩
      have hoN := ho11
      have hpN := hp11
      replace RD := RD11
      clear RD11
      replace G := Mod.trans' G m11 (fun _ h _ => h) (fun i h hl => by first | exact h | omega | (dsimp only at h ⊢; omega))
      replace GS9 := GS9.trn m11
      replace O1 := O1.md m11
      have zm11 := m11.size
      refine ⟨GS9, ?_⟩
      refine D_1 (i := 7) (by kernel_rfl) ?_
      refine E_bs1 (cs := [_, _, _, _]) (i := 7) rfl Try.underlying120 zr133 sz133 rfl rfl rfl ?_
      intro b12 w12 fb12 g12 B12
      refine ⟨GS9.grow g12, ?_⟩
      have lb12 := B12.lt
      replace O1 := O1.grow g12
      replace RD := RD.grow g12
      replace G := G.grow g12
      replace GS9 := GS9.grow g12
      have zg12 := g12.size
      refine D_1 (i := 8) (by kernel_rfl) ?_
      refine E_app (i := 8) rfl Try.underlying120 zr133 sz133 by133 rfl rfl (O1.pop (m := min q1 9) (by omega)) rfl (Src.blk B12) (by simp [Value.oneCell', cmdC]) (by omega) (Pr' := (fun i => w.heap.size ≤ i)) (fun i hi => by first | exact hi | omega | (dsimp only at hi ⊢; omega)) (by first | omega | (dsimp only; omega)) ?_
      intro A13 cap13 w13 X13 m13
      replace O1 := X13
      clear X13
      replace G := Mod.trans' G m13 (fun _ h _ => h) (fun i h hl => by first | exact h | omega | (dsimp only at h ⊢; omega))
      replace GS9 := GS9.trn m13
      replace RD := RD.md m13
      have zm13 := m13.size
      rw [flatO_take] at O1
      replace O1 : OW (fun i => w.heap.size ≤ i) w13 133 4 A13 (min q1 9 + 1) cap13 (flatO (lF.take (min q1 9) ++ [oN])) := by rw [flatO_last]; exact O1
      have hl41 : (lF.take (min q1 9) ++ [oN]).length = min q1 9 + 1 := by rw [List.length_append, List.length_take]; simp; omega
      refine ⟨GS9, ?_⟩
      refine Dq (i := 9) rfl GS9 (fun _ _ => Y_assign rfl) ?_
      refine D_en (by kernel_rfl) rfl rfl ?_
      refine th_n (hK8 _ _ ?_)
      clear hK8 K8
      refine wp_seq_k fun K11 hK11 => ?_
      refine Sb 36 rfl ?_  -- 10
      refine S_val (Y_move rfl) ?_
      refine S_val (Y_assign rfl) ?_
      refine S_nl rfl rfl ?_
      refine th_n (hK11 _ _ ?_)
      clear hK11 K11
      refine wp_ret ?_
      refine ret_r1 rfl rfl ?_  -- r1
      first | exact ⟨lF, _, _, _, _, rfl, hq1, hqc, hl40, hcsF, by omega, RO.of_ow O1, RD, G⟩ | exact ⟨_, _, _, _, _, rfl, by rw [hl41], O1.cap, by omega, fun h => by (have h9 := hr9 h; rw [h9] at hb2; cases hb2), by omega, RO.of_ow O1, RD, G⟩ | exact ⟨List.replicate 41 ⟨0, 0, 0, 0⟩, _, _, _, _, rfl, by simp, by omega, by simp, fun h => by (have h9 := hr9 h; rw [h9] at hb2; cases hb2), by omega, hRO, RD, G⟩
     · -- operation 6 comes up
      refine E_call rfl rfl en121 (spec_l20Command_c _ _ _ _ RD (by omega) (by omega)) ?_  -- k6 spec.l20Command
      rintro v14 w14 ⟨o14, p14, rfl, ho14, hp14, RD14, m14⟩
      obtain ⟨oN, rfl⟩ : ∃ x, x = o14 := ⟨_, rfl⟩
      have hoN := ho14
      have hpN := hp14
      replace RD := RD14
      clear RD14
      replace G := Mod.trans' G m14 (fun _ h _ => h) (fun i h hl => by first | exact h | omega | (dsimp only at h ⊢; omega))
      replace GS9 := GS9.trn m14
      replace O1 := O1.md m14
      have zm14 := m14.size
      refine ⟨GS9, ?_⟩
      refine D_2 (i := 3) (j := 7) (by kernel_rfl) ?_ ?_
      · -- operation 3 comes up
       refine E_val (i := 3) rfl (Y_minN (b := 9) rfl rfl) GS9 ?_
       refine Dq (i := 4) rfl GS9 (fun _ _ => Y_sliceH Try.underlying120 sz133 rfl (j := min q1 9) rfl (by omega)) ?_
       refine D_1 (i := 7) (by kernel_rfl) ?_
       refine E_bs1 (cs := [_, _, _, _]) (i := 7) rfl Try.underlying120 zr133 sz133 rfl rfl rfl ?_
       intro b16 w16 fb16 g16 B16
       refine ⟨GS9.grow g16, ?_⟩
       have lb16 := B16.lt
       replace O1 := O1.grow g16
       replace RD := RD.grow g16
       replace G := G.grow g16
       replace GS9 := GS9.grow g16
       have zg16 := g16.size
       refine D_1 (i := 8) (by kernel_rfl) ?_
       refine E_app (i := 8) rfl Try.underlying120 zr133 sz133 by133 rfl rfl (O1.pop (m := min q1 9) (by omega)) rfl (Src.blk B16) (by simp [Value.oneCell', cmdC]) (by omega) (Pr' := (fun i => w.heap.size ≤ i)) (fun i hi => by first | exact hi | omega | (dsimp only at hi ⊢; omega)) (by first | omega | (dsimp only; omega)) ?_
       intro A17 cap17 w17 X17 m17
       replace O1 := X17
       clear X17
       replace G := Mod.trans' G m17 (fun _ h _ => h) (fun i h hl => by first | exact h | omega | (dsimp only at h ⊢; omega))
       replace GS9 := GS9.trn m17
       replace RD := RD.md m17
       have zm17 := m17.size
       rw [flatO_take] at O1
       replace O1 : OW (fun i => w.heap.size ≤ i) w17 133 4 A17 (min q1 9 + 1) cap17 (flatO (lF.take (min q1 9) ++ [oN])) := by rw [flatO_last]; exact O1
       have hl41 : (lF.take (min q1 9) ++ [oN]).length = min q1 9 + 1 := by rw [List.length_append, List.length_take]; simp; omega
       refine ⟨GS9, ?_⟩
       refine Dq (i := 9) rfl GS9 (fun _ _ => Y_assign rfl) ?_
       refine D_en (by kernel_rfl) rfl rfl ?_
       refine th_n (hK8 _ _ ?_)
       clear hK8 K8
       refine wp_seq_k fun K12 hK12 => ?_
       refine Sb 36 rfl ?_  -- 10
       refine S_val (Y_move rfl) ?_
       refine S_val (Y_assign rfl) ?_
       refine S_nl rfl rfl ?_
       refine th_n (hK12 _ _ ?_)
       clear hK12 K12
       refine wp_ret ?_
       refine ret_r1 rfl rfl ?_  -- r2
       first | exact ⟨lF, _, _, _, _, rfl, hq1, hqc, hl40, hcsF, by omega, RO.of_ow O1, RD, G⟩ | exact ⟨_, _, _, _, _, rfl, by rw [hl41], O1.cap, by omega, fun h => by (have h9 := hr9 h; rw [h9] at hb2; cases hb2), by omega, RO.of_ow O1, RD, G⟩ | exact ⟨List.replicate 41 ⟨0, 0, 0, 0⟩, _, _, _, _, rfl, by simp, by omega, by simp, fun h => by (have h9 := hr9 h; rw [h9] at hb2; cases hb2), by omega, hRO, RD, G⟩
      · -- operation 7 comes up
       refine E_bs1 (cs := [_, _, _, _]) (i := 7) rfl Try.underlying120 zr133 sz133 rfl rfl rfl ?_
       intro b18 w18 fb18 g18 B18
       refine ⟨GS9.grow g18, ?_⟩
       have lb18 := B18.lt
       replace O1 := O1.grow g18
       replace RD := RD.grow g18
       replace G := G.grow g18
       replace GS9 := GS9.grow g18
       have zg18 := g18.size
       refine D_1 (i := 3) (by kernel_rfl) ?_
       refine E_val (i := 3) rfl (Y_minN (b := 9) rfl rfl) GS9 ?_
       refine Dq (i := 4) rfl GS9 (fun _ _ => Y_sliceH Try.underlying120 sz133 rfl (j := min q1 9) rfl (by omega)) ?_
       refine D_1 (i := 8) (by kernel_rfl) ?_
       refine E_app (i := 8) rfl Try.underlying120 zr133 sz133 by133 rfl rfl (O1.pop (m := min q1 9) (by omega)) rfl (Src.blk B18) (by simp [Value.oneCell', cmdC]) (by omega) (Pr' := (fun i => w.heap.size ≤ i)) (fun i hi => by first | exact hi | omega | (dsimp only at hi ⊢; omega)) (by first | omega | (dsimp only; omega)) ?_
       intro A20 cap20 w20 X20 m20
       replace O1 := X20
       clear X20
       replace G := Mod.trans' G m20 (fun _ h _ => h) (fun i h hl => by first | exact h | omega | (dsimp only at h ⊢; omega))
       replace GS9 := GS9.trn m20
       replace RD := RD.md m20
       have zm20 := m20.size
       rw [flatO_take] at O1
       replace O1 : OW (fun i => w.heap.size ≤ i) w20 133 4 A20 (min q1 9 + 1) cap20 (flatO (lF.take (min q1 9) ++ [oN])) := by rw [flatO_last]; exact O1
       have hl41 : (lF.take (min q1 9) ++ [oN]).length = min q1 9 + 1 := by rw [List.length_append, List.length_take]; simp; omega
       refine ⟨GS9, ?_⟩
       refine Dq (i := 9) rfl GS9 (fun _ _ => Y_assign rfl) ?_
       refine D_en (by kernel_rfl) rfl rfl ?_
       refine th_n (hK8 _ _ ?_)
       clear hK8 K8
       refine wp_seq_k fun K13 hK13 => ?_
       refine Sb 36 rfl ?_  -- 10
       refine S_val (Y_move rfl) ?_
       refine S_val (Y_assign rfl) ?_
       refine S_nl rfl rfl ?_
       refine th_n (hK13 _ _ ?_)
       clear hK13 K13
       refine wp_ret ?_
       refine ret_r1 rfl rfl ?_  -- r3
       first | exact ⟨lF, _, _, _, _, rfl, hq1, hqc, hl40, hcsF, by omega, RO.of_ow O1, RD, G⟩ | exact ⟨_, _, _, _, _, rfl, by rw [hl41], O1.cap, by omega, fun h => by (have h9 := hr9 h; rw [h9] at hb2; cases hb2), by omega, RO.of_ow O1, RD, G⟩ | exact ⟨List.replicate 41 ⟨0, 0, 0, 0⟩, _, _, _, _, rfl, by simp, by omega, by simp, fun h => by (have h9 := hr9 h; rw [h9] at hb2; cases hb2), by omega, hRO, RD, G⟩
    · -- c3F
     replace hb3 := nb_tf hb3
     refine Sb 36 rfl ?_  -- 9
     refine S_make (n := 41) (l := 41) (z := cmdC ⟨0, 0, 0, 0⟩) Try.underlying120 zr133 sz133 by133 rfl rfl (by omega) (by omega) (by omega) ?_
     intro b21 w21 fb21 g21 B21
     have lb21 := B21.lt
     replace O1 := O1.grow g21
     replace RD := RD.grow g21
     replace G := G.grow g21
     have zg21 := g21.size
     rw [← flatO_rep] at B21
     have hRO : RO (fun i => w.heap.size ≤ i) w21 (some ⟨b21, 0, none⟩) (List.replicate 41 ⟨0, 0, 0, 0⟩) := RO.of_blk0 B21 (by omega)
     refine S_val (Y_assign rfl) ?_
     refine S_nl rfl rfl ?_
     refine th_n (hK8 _ _ ?_)
     clear hK8 K8
     refine wp_seq_k fun K14 hK14 => ?_
     refine Sb 36 rfl ?_  -- 10
     refine S_val (Y_move rfl) ?_
     refine S_val (Y_assign rfl) ?_
     refine S_nl rfl rfl ?_
     refine th_n (hK14 _ _ ?_)
     clear hK14 K14
     refine wp_ret ?_
     refine ret_r1 rfl rfl ?_  -- r4
     first | exact ⟨lF, _, _, _, _, rfl, hq1, hqc, hl40, hcsF, by omega, RO.of_ow O1, RD, G⟩ | exact ⟨_, _, _, _, _, rfl, by rw [hl41], O1.cap, by omega, fun h => by (have h9 := hr9 h; rw [h9] at hb2; cases hb2), by omega, RO.of_ow O1, RD, G⟩ | exact ⟨List.replicate 41 ⟨0, 0, 0, 0⟩, _, _, _, _, rfl, by simp, by omega, by simp, fun h => by (have h9 := hr9 h; rw [h9] at hb2; cases hb2), by omega, hRO, RD, G⟩
   · -- c2F
    first | with_reducible (replace hb2 := nb_nf hb2) | with_reducible (replace hb2 := nb_tf hb2) | with_reducible (replace hb2 := nb_bf hb2) | skip
    refine wp_skip ?_
    refine th_n (hK8 _ _ ?_)
    clear hK8 K8
    refine wp_seq_k fun K15 hK15 => ?_
    refine Sb 36 rfl ?_  -- 10
    refine S_val (Y_move rfl) ?_
    refine S_val (Y_assign rfl) ?_
    refine S_nl rfl rfl ?_
    refine th_n (hK15 _ _ ?_)
    clear hK15 K15
    refine wp_ret ?_
    refine ret_r1 rfl rfl ?_  -- r5
    first | exact ⟨lF, _, _, _, _, rfl, hq1, hqc, hl40, hcsF, by omega, RO.of_ow O1, RD, G⟩ | exact ⟨_, _, _, _, _, rfl, by rw [hl41], O1.cap, by omega, fun h => by (have h9 := hr9 h; rw [h9] at hb2; cases hb2), by omega, RO.of_ow O1, RD, G⟩ | exact ⟨List.replicate 41 ⟨0, 0, 0, 0⟩, _, _, _, _, rfl, by simp, by omega, by simp, fun h => by (have h9 := hr9 h; rw [h9] at hb2; cases hb2), by omega, hRO, RD, G⟩
end
/-! WalkS -/
section
open Go Go.RowKit
attribute [local irreducible] wpList wpAnyH Code.wp dOp
set_option maxHeartbeats 400000 in
set_option maxRecDepth 20000 in
theorem impl_numbersIn_c (Pr : Nat → Prop) (E : Option Addr) (o : List Int) (e N : Nat) (w : World) (hE : R1 Pr w E (ints o)) (hb : Bnd N o) (hN : N ≤ 1048576) :
    Calls Try.prog 79 #[.slice E o.length e, .int .i64 (N : Int)] w (Ret fun v w' => ∃ b, v = .slice (some ⟨b, 0, none⟩) N N ∧ w.heap.size ≤ b ∧ Blk w' b 3 (ints (namesL N o)).toArray ∧ Grow w w') := by
 have hlen := hb.len
 refine enter Try.func79 rfl Try.ntmps79 (L := [_,_,_,_,_,_,_,_,_,_,_,_,_,_,_,_,_,_,_,_,_,_,_,_,_,_,_,_,_,_,_,_,_]) rfl ?_
 have G := Mod.refl No w
 have hE0 := hE
 refine wp_seq_k fun K1 hK1 => ?_
 refine Sb 33 rfl ?_  -- 0
 refine S_val (Y_assign rfl) ?_
 refine S_nl rfl rfl ?_
 refine th_n (hK1 _ _ ?_)
 clear hK1 K1
 refine wp_seq_k fun K2 hK2 => ?_
 refine Sb 33 rfl ?_  -- 1
 refine S_val (Y_move rfl) ?_
 refine S_make (z := [.int .i64 0]) Try.underlying23 zr3 sz3 by3 rfl rfl (by omega) (by omega) (by omega) ?_
 intro b1 w1 fb1 g1 B1
 have lb1 := B1.lt
 replace hE := hE.grow g1
 replace G := G.grow g1
 have zg1 := g1.size
 refine S_val (Y_assign rfl) ?_
 refine S_nl rfl rfl ?_
 refine th_n (hK2 _ _ ?_)
 clear hK2 K2
 refine wp_seq_k fun K3 hK3 => ?_
 refine wp_seq_k fun K4 hK4 => ?_
 refine Sb 33 rfl ?_  -- 2
 refine S_val (Y_move rfl) ?_
 refine S_val (Y_len Try.underlying23 rfl) ?_
 refine S_val (Y_move rfl) ?_
 refine S_nl rfl rfl ?_
 refine th_n (hK4 _ _ ?_)
 clear hK4 K4
 refine wp_block ?_
 go_loopw [13] (fun u13 wr => (∃ k : Nat, u13 = .int .i64 k ∧ k ≤ N ∧ Blk wr b1 3 (List.replicate k (Value.int .i64 (-1)) ++ zeros [.int .i64 0] (N - k)).toArray) ∧ Mod (fun i => i = b1) w1 wr) (fun u13 wr => N - (intOf u13).toNat)  -- L1
 case atStart =>
  refine ⟨?_, Mod.refl _ _⟩
  exact ⟨0, rfl, by omega, by simpa using B1⟩
 case round =>
  obtain ⟨w2, rfl⟩ : ∃ x : World, x = wr := ⟨_, rfl⟩
  obtain ⟨hrel, g2⟩ := hrel
  clear B1
  replace G := G.abv g2
  replace hE := hE0.grow G
  have zg2 := g2.size
  obtain ⟨k, rfl, hk, B1⟩ := hrel
  have GL2 := g2
  refine wp_seq_k fun K5 hK5 => ?_
  refine Sb 33 rfl ?_  -- 3
  refine S_val (Y_lss rfl rfl) ?_
  refine S_nl rfl rfl ?_
  refine th_n (hK5 _ _ ?_)
  clear hK5 K5
  refine wp_seq_k fun K6 hK6 => ?_
  refine S_if rfl (fun hb1 => ?_) (fun hb1 => ?_)  -- c1
  · -- c1T
   replace hb1 := nb_tt hb1
   have hk1 : k < N := by omega
   rw [zeros_pos (by omega)] at B1
   refine wp_skip ?_
   refine th_n (hK6 _ _ ?_)
   clear hK6 K6
   refine wp_seq_k fun K7 hK7 => ?_
   refine wp_block ?_
   refine wp_seq_k fun K8 hK8 => ?_
   refine Sb 33 rfl ?_  -- 4
   refine S_val (Y_move rfl) ?_
   refine S_val (Y_assign rfl) ?_
   refine S_nl rfl rfl ?_
   refine th_n (hK8 _ _ ?_)
   clear hK8 K8
   refine Sb 33 rfl ?_  -- 5
   refine S_val (Y_move rfl) ?_
   refine S_val (Y_move rfl) ?_
   refine S_val (Y_index Try.underlying23 sz3 rfl rfl (by first | assumption | omega)) ?_
   refine S_stM (pre := List.replicate k (Value.int .i64 (-1))) (old := [.int .i64 0]) (post := zeros [.int .i64 0] (N - k - 1)) (vs := [_]) sz3 rfl rfl rfl rfl (by rw [List.append_assoc]; exact B1) (by simp) rfl ?_
   intro w3 m3 X3
   replace B1 := Blk.eq X3 (fill_step hk1)
   clear X3
   replace G := G.abv m3
   replace GL2 := GL2.trn m3
   replace hE := hE0.grow G
   have zm3 := m3.size
   refine S_nl rfl rfl ?_
   refine ib_n ?_
   refine th_n (hK7 _ _ ?_)
   clear hK7 K7
   refine Sb 33 rfl ?_  -- 6
   refine S_val (Y_inc rfl rfl (by omega)) ?_
   refine S_val (Y_move rfl) ?_
   refine S_nl rfl rfl ?_
   refine th_n ?_
   go_roundw  -- e1 of L1
   case rel =>
    refine ⟨?_, GL2⟩
    exact ⟨k + 1, rfl, by omega, B1⟩
   case measure =>
    exact dec_nat (by omega)
  · -- c1F
   replace hb1 := nb_tf hb1
   refine wp_exit ?_
   refine th_x ?_
   try clear GL2
   refine th_x ?_
   refine ib_e ?_
   refine th_n (hK3 _ _ ?_)
   clear hK6 K6 hK3 K3
   refine wp_seq_k fun K9 hK9 => ?_
   refine wp_seq_k fun K10 hK10 => ?_
   refine Sb 33 rfl ?_  -- 7
   refine S_val (Y_move rfl) ?_
   refine S_val (Y_len Try.underlying23 rfl) ?_
   refine S_val (Y_move rfl) ?_
   refine S_nl rfl rfl ?_
   refine th_n (hK10 _ _ ?_)
   clear hK10 K10
   refine wp_block ?_
   have hkN : k = N := by omega
   rw [hkN, Nat.sub_self] at B1
   replace B1 := Blk.eq B1 (show _ = ints (namesL N []) by rw [namesL_nil, ints_rep]; simp [zeros])
   go_loopw [22] (fun u22 wr => (∃ k : Nat, u22 = .int .i64 k ∧ k ≤ o.length ∧ Blk wr b1 3 (ints (namesL N (o.take k))).toArray) ∧ Mod (fun i => i = b1) w2 wr) (fun u22 wr => o.length - (intOf u22).toNat)  -- L2
   case atStart =>
    refine ⟨?_, Mod.refl _ _⟩
    exact ⟨0, rfl, by omega, by simpa using B1⟩
   case round =>
    obtain ⟨w4, rfl⟩ : ∃ x : World, x = wr := ⟨_, rfl⟩
    obtain ⟨hrel, g4⟩ := hrel
    clear B1
    replace G := G.abv g4
    replace hE := hE0.grow G
    have zg4 := g4.size
    obtain ⟨k, rfl, hk, B1⟩ := hrel
    have GL4 := g4
    refine wp_seq_k fun K11 hK11 => ?_
    refine Sb 33 rfl ?_  -- 8
    refine S_val (Y_lss rfl rfl) ?_
    refine S_nl rfl rfl ?_
    refine th_n (hK11 _ _ ?_)
    clear hK11 K11
    refine wp_seq_k fun K12 hK12 => ?_
    refine S_if rfl (fun hb2 => ?_) (fun hb2 => ?_)  -- c2
    · -- c2T
     replace hb2 := nb_tt hb2
     have hk1 : k < o.length := by omega
     obtain ⟨n, hn, hnN, hng⟩ := bnd_at hb hk1
     obtain ⟨g2, o2, rfl, hp2, hc2⟩ := hE.int hk1
     rw [hn] at hc2
     have hnot := take_notMem hb hk1 hn
     have htk := List.take_succ_eq_append_getElem hk1
     rw [hn] at htk
     refine wp_skip ?_
     refine th_n (hK12 _ _ ?_)
     clear hK12 K12
     refine wp_seq_k fun K13 hK13 => ?_
     refine wp_block ?_
     refine wp_seq_k fun K14 hK14 => ?_
     refine Sb 33 rfl ?_  -- 9
     refine S_val (Y_move rfl) ?_
     refine S_val (Y_index Try.underlying23 sz3 rfl rfl (by first | assumption | omega)) ?_
     refine S_val (Y_load Try.underlying3 rfl rfl (by first | assumption | exact B1.at (by rfl))) ?_  -- l1
     refine S_val (Y_assign rfl) ?_
     refine S_val (Y_assign rfl) ?_
     refine S_nl rfl rfl ?_
     refine th_n (hK14 _ _ ?_)
     clear hK14 K14
     refine Sb 33 rfl ?_  -- 10
     refine S_val (Y_move rfl) ?_
     refine S_val (Y_move rfl) ?_
     refine S_val (Y_move rfl) ?_
     refine S_val (Y_index Try.underlying23 sz3 rfl rfl (by first | assumption | omega)) ?_
     refine S_stM (pre := (ints (namesL N (o.take k))).take n) (old := [.int .i64 (nameIn (o.take k) (n : Int))]) (post := (ints (namesL N (o.take k))).drop (n + 1)) (vs := [_]) sz3 rfl rfl rfl rfl (by rw [← namesL_split hnN]; exact B1) (by rw [List.length_take, ints_len, namesL_len]; omega) rfl ?_
     intro w5 m5 X5
     replace B1 := Blk.eq X5 (show _ = ints (namesL N (o.take k ++ [(n : Int)])) by have hns := namesL_set hnN hnot; rw [List.length_take, Nat.min_eq_left hk] at hns; exact hns)
     clear X5
     replace G := G.abv m5
     replace GL4 := GL4.trn m5
     replace hE := hE0.grow G
     have zm5 := m5.size
     refine S_nl rfl rfl ?_
     refine ib_n ?_
     refine th_n (hK13 _ _ ?_)
     clear hK13 K13
     refine Sb 33 rfl ?_  -- 11
     refine S_val (Y_inc rfl rfl (by omega)) ?_
     refine S_val (Y_move rfl) ?_
     refine S_nl rfl rfl ?_
     refine th_n ?_
     go_roundw  -- e2 of L2
     case rel =>
      refine ⟨?_, GL4⟩
      exact ⟨k + 1, rfl, by omega, by rw [htk]; exact B1⟩
     case measure =>
      exact dec_nat (by omega)
    · -- c2F
     replace hb2 := nb_tf hb2
     refine wp_exit ?_
     refine th_x ?_
     try clear GL4
     refine th_x ?_
     refine ib_e ?_
     refine th_n (hK9 _ _ ?_)
     clear hK12 K12 hK9 K9
     refine wp_seq_k fun K15 hK15 => ?_
     refine Sb 33 rfl ?_  -- 12
     refine S_val (Y_move rfl) ?_
     refine S_val (Y_assign rfl) ?_
     refine S_nl rfl rfl ?_
     refine th_n (hK15 _ _ ?_)
     clear hK15 K15
     refine wp_ret ?_
     refine ret_r1 rfl rfl ?_  -- r1
     rw [List.take_of_length_le (by omega)] at B1
     exact ⟨b1, rfl, by omega, B1, G⟩
set_option maxHeartbeats 400000 in
set_option maxRecDepth 20000 in
theorem impl_renamed_c (Pr Pr2 : Nat → Prop) (E F : Option Addr) (xs o : List Int) (e f N : Nat) (w : World) (hE : R1 Pr w E (ints xs)) (hF : R1 Pr2 w F (ints (namesL N o))) (hx : xs.length ≤ 1048576) (hr : ∀ x ∈ xs, x = -1 ∨ (0 ≤ x ∧ x < (N : Int))) (ho : ∀ x ∈ o, 0 ≤ x) :
    Calls Try.prog 80 #[.slice E xs.length e, .slice F N f] w (Ret fun v w' => ∃ A q cap, v = .slice A q cap ∧ q = xs.length ∧ OW (fun i => w.heap.size ≤ i) w' 3 1 A q cap (ints (xs.map (nameIn o))) ∧ Grow w w') := by
 refine enter Try.func80 rfl Try.ntmps80 (L := [_,_,_,_,_,_,_,_,_,_,_,_,_,_,_,_,_,_,_,_,_,_,_,_,_,_,_]) rfl ?_
 have G := Mod.refl No w
 have hE0 := hE
 have hF0 := hF
 refine wp_seq_k fun K1 hK1 => ?_
 refine Sb 27 rfl ?_  -- 0
 refine S_val (Y_assign rfl) ?_
 refine S_nl rfl rfl ?_
 refine th_n (hK1 _ _ ?_)
 clear hK1 K1
 refine wp_seq_k fun K2 hK2 => ?_
 refine Sb 27 rfl ?_  -- 1
 refine S_bs0 Try.underlying23 sz3 ?_
 intro b1 w1 fb1 g1 B1
 have lb1 := B1.lt
 replace hE := hE.grow g1
 replace hF := hF.grow g1
 replace G := G.grow g1
 have zg1 := g1.size
 refine S_val (Y_assign rfl) ?_
 refine S_nl rfl rfl ?_
 refine th_n (hK2 _ _ ?_)
 clear hK2 K2
 refine wp_seq_k fun K3 hK3 => ?_
 refine wp_seq_k fun K4 hK4 => ?_
 refine Sb 27 rfl ?_  -- 2
 refine S_val (Y_move rfl) ?_
 refine S_val (Y_len Try.underlying23 rfl) ?_
 refine S_val (Y_move rfl) ?_
 refine S_nl rfl rfl ?_
 refine th_n (hK4 _ _ ?_)
 clear hK4 K4
 refine wp_block ?_
 have O1 : OW (fun i => w.heap.size ≤ i) w1 3 1 (some ⟨b1, 0, none⟩) 0 0 (ints []) := OW.of_blk B1 rfl (by decide) (by omega)
 go_loopw [5, 11] (fun u5 u11 wr => (∃ (k q cap : Nat) (A1 : Option Addr), u11 = .int .i64 k ∧ u5 = .slice A1 q cap ∧ k ≤ xs.length ∧ q = k ∧ OW (fun i => w.heap.size ≤ i) wr 3 1 A1 q cap (ints ((xs.take k).map (nameIn o)))) ∧ Mod (fun i => w.heap.size ≤ i) w1 wr) (fun u5 u11 wr => xs.length - (intOf u11).toNat)  -- L1
 case atStart =>
  refine ⟨?_, Mod.refl _ _⟩
  exact ⟨0, 0, 0, _, rfl, rfl, by omega, rfl, O1⟩
 case round =>
  obtain ⟨w2, rfl⟩ : ∃ x : World, x = wr := ⟨_, rfl⟩
  obtain ⟨hrel, g2⟩ := hrel
  clear O1
  replace G := G.abv g2
  replace hE := hE0.grow G
  replace hF := hF0.grow G
  have zg2 := g2.size
  obtain ⟨k, q1, cap1, A1, rfl, rfl, hk, hq1, O1⟩ := hrel
  have GL2 := g2
  refine wp_seq_k fun K5 hK5 => ?_
  refine Sb 27 rfl ?_  -- 3
  refine S_val (Y_lss rfl rfl) ?_
  refine S_nl rfl rfl ?_
  refine th_n (hK5 _ _ ?_)
  clear hK5 K5
  refine wp_seq_k fun K6 hK6 => ?_
  refine S_if rfl (fun hb1 => ?_) (fun hb1 => ?_)  -- c1
  · -- c1T
   replace hb1 := nb_tt hb1
   have hk1 : k < xs.length := by omega
   obtain ⟨g2, o2, rfl, hp2, hc2⟩ := hE.int hk1
   have htk := List.take_succ_eq_append_getElem hk1
   refine wp_skip ?_
   refine th_n (hK6 _ _ ?_)
   clear hK6 K6
   refine wp_seq_k fun K7 hK7 => ?_
   refine wp_block ?_
   refine wp_seq_k fun K8 hK8 => ?_
   refine Sb 27 rfl ?_  -- 4
   refine S_val (Y_index Try.underlying23 sz3 rfl rfl (by first | assumption | omega)) ?_
   refine S_val (Y_load Try.underlying3 rfl rfl (by first | assumption)) ?_  -- l1
   refine S_val (Y_assign rfl) ?_
   refine S_nl rfl rfl ?_
   refine th_n (hK8 _ _ ?_)
   clear hK8 K8
   refine wp_seq_k fun K9 hK9 => ?_
   refine wp_seq_k fun K10 hK10 => ?_
   refine Sb 27 rfl ?_  -- 5
   refine S_val (Y_move rfl) ?_
   refine S_val (Y_geq rfl rfl) ?_
   refine S_nl rfl rfl ?_
   refine th_n (hK10 _ _ ?_)
   clear hK10 K10
   refine S_if rfl (fun hb2 => ?_) (fun hb2 => ?_)  -- c2
   · -- c2T
    replace hb2 := nb_tt hb2
    obtain ⟨n, hn⟩ := Int.eq_ofNat_of_zero_le hb2
    have hnN : n < N := by have := hr _ (List.getElem_mem hk1); omega
    rw [hn]
    rw [hn] at htk
    obtain ⟨g3, o3, rfl, hp3, hc3⟩ := hF.int (k := n) (by rw [namesL_len]; exact hnN)
    rw [namesL_at] at hc3
    refine Sb 27 rfl ?_  -- 6
    refine S_val (Y_move rfl) ?_
    refine S_val (Y_move rfl) ?_
    refine S_val (Y_index Try.underlying23 sz3 rfl rfl (by first | assumption | omega)) ?_
    refine S_val (Y_load Try.underlying3 rfl rfl (by first | assumption)) ?_  -- l2
    refine S_val (Y_assign rfl) ?_
    refine S_nl rfl rfl ?_
    refine th_n (hK9 _ _ ?_)
    clear hK9 K9
    refine Sb 27 rfl ?_  -- 7
    refine S_val (Y_move rfl) ?_
    refine S_val (Y_move rfl) ?_
    refine S_bs1 (cs := [_]) Try.underlying23 zr3 sz3 rfl rfl rfl ?_
    intro b3 w3 fb3 g3 B3
    have lb3 := B3.lt
    replace hE := hE.grow g3
    replace hF := hF.grow g3
    replace O1 := O1.grow g3
    replace G := G.grow g3
    replace GL2 := GL2.grow g3
    have zg3 := g3.size
    refine S_app Try.underlying23 zr3 sz3 by3 rfl rfl O1 rfl (Src.blk B3) (by simp [Value.oneCell']) (by omega) (Pr' := fun i => w.heap.size ≤ i) (fun i hi => hi) (by omega) ?_
    intro A4 cap4 w4 X4 m4
    replace O1 := X4
    rw [ints_app] at O1
    clear X4
    replace G := G.abv m4
    replace GL2 := GL2.trn m4
    replace hE := hE0.grow G
    replace hF := hF0.grow G
    have zm4 := m4.size
    refine S_val (Y_assign rfl) ?_
    refine S_nl rfl rfl ?_
    refine ib_n ?_
    refine th_n (hK7 _ _ ?_)
    clear hK7 K7
    refine Sb 27 rfl ?_  -- 8
    refine S_val (Y_inc rfl rfl (by omega)) ?_
    refine S_val (Y_move rfl) ?_
    refine S_nl rfl rfl ?_
    refine th_n ?_
    go_roundw  -- e1 of L1
    case rel =>
     refine ⟨?_, GL2⟩
     exact ⟨k + 1, _, _, _, rfl, rfl, by omega, by omega, by rw [htk, List.map_append]; exact O1⟩
    case measure =>
     exact dec_nat (by omega)
   · -- c2F
    replace hb2 := nb_tf hb2
    have hm1 : xs[k] = -1 := by have := hr _ (List.getElem_mem hk1); omega
    have hno : nameIn o (-1) = -1 := nameIn_no (fun hm => by have := ho _ hm; omega)
    rw [hm1]
    rw [hm1] at htk
    refine wp_skip ?_
    refine th_n (hK9 _ _ ?_)
    clear hK9 K9
    refine Sb 27 rfl ?_  -- 7
    refine S_val (Y_move rfl) ?_
    refine S_val (Y_move rfl) ?_
    refine S_bs1 (cs := [_]) Try.underlying23 zr3 sz3 rfl rfl rfl ?_
    intro b5 w5 fb5 g5 B5
    have lb5 := B5.lt
    replace hE := hE.grow g5
    replace hF := hF.grow g5
    replace O1 := O1.grow g5
    replace G := G.grow g5
    replace GL2 := GL2.grow g5
    have zg5 := g5.size
    refine S_app Try.underlying23 zr3 sz3 by3 rfl rfl O1 rfl (Src.blk B5) (by simp [Value.oneCell']) (by omega) (Pr' := fun i => w.heap.size ≤ i) (fun i hi => hi) (by omega) ?_
    intro A6 cap6 w6 X6 m6
    replace O1 := X6
    rw [ints_app] at O1
    clear X6
    replace G := G.abv m6
    replace GL2 := GL2.trn m6
    replace hE := hE0.grow G
    replace hF := hF0.grow G
    have zm6 := m6.size
    refine S_val (Y_assign rfl) ?_
    refine S_nl rfl rfl ?_
    refine ib_n ?_
    refine th_n (hK7 _ _ ?_)
    clear hK7 K7
    refine Sb 27 rfl ?_  -- 8
    refine S_val (Y_inc rfl rfl (by omega)) ?_
    refine S_val (Y_move rfl) ?_
    refine S_nl rfl rfl ?_
    refine th_n ?_
    go_roundw  -- e2 of L1
    case rel =>
     refine ⟨?_, GL2⟩
     exact ⟨k + 1, _, _, _, rfl, rfl, by omega, by omega, by rw [htk, List.map_append, List.map_singleton, hno]; exact O1⟩
    case measure =>
     exact dec_nat (by omega)
  · -- c1F
   replace hb1 := nb_tf hb1
   refine wp_exit ?_
   refine th_x ?_
   try clear GL2
   refine th_x ?_
   refine ib_e ?_
   refine th_n (hK3 _ _ ?_)
   clear hK6 K6 hK3 K3
   refine wp_seq_k fun K11 hK11 => ?_
   refine Sb 27 rfl ?_  -- 9
   refine S_val (Y_move rfl) ?_
   refine S_val (Y_assign rfl) ?_
   refine S_nl rfl rfl ?_
   refine th_n (hK11 _ _ ?_)
   clear hK11 K11
   refine wp_ret ?_
   refine ret_r1 rfl rfl ?_  -- r1
   have : k = xs.length := by omega
   subst this
   rw [List.take_length] at O1
   exact ⟨_, _, _, rfl, hq1, O1, G⟩
set_option maxHeartbeats 400000 in
set_option maxRecDepth 20000 in
theorem spec_l9Name_c (Pr : Nat → Prop) (E : Option Addr) (o : List Int) (e : Nat) (x : Int) (w : World) (hE : R1 Pr w E (ints o)) (ho : o.length ≤ 1048576) :
    Calls Try.prog 109 #[.slice E o.length e, .int .i64 x] w (Ret fun v w' => v = .int .i64 (nameIn o x) ∧ Grow w w') := by
 refine enter Try.func109 rfl Try.ntmps109 (L := [_,_,_,_,_,_,_,_,_,_,_,_,_,_,_,_,_,_,_]) rfl ?_
 have G := Mod.refl No w
 have hE0 := hE
 refine wp_seq_k fun K1 hK1 => ?_
 refine Sb 19 rfl ?_  -- 0
 refine S_val (Y_assign rfl) ?_
 refine S_nl rfl rfl ?_
 refine th_n (hK1 _ _ ?_)
 clear hK1 K1
 refine wp_seq_k fun K2 hK2 => ?_
 refine wp_seq_k fun K3 hK3 => ?_
 refine Sb 19 rfl ?_  -- 1
 refine S_val (Y_assign rfl) ?_
 refine S_nl rfl rfl ?_
 refine th_n (hK3 _ _ ?_)
 clear hK3 K3
 refine wp_block ?_
 go_loopw [5] (fun u5 wr => (∃ k : Nat, u5 = .int .i64 k ∧ k ≤ o.length ∧ x ∉ o.take k) ∧ Mod No w wr) (fun u5 wr => o.length - (intOf u5).toNat)  -- L1
 case atStart =>
  refine ⟨?_, Mod.refl _ _⟩
  exact ⟨0, rfl, by omega, by simp⟩
 case round =>
  obtain ⟨w1, rfl⟩ : ∃ x : World, x = wr := ⟨_, rfl⟩
  obtain ⟨hrel, g1⟩ := hrel
  replace hE := hE.grow g1
  replace G := G.grow g1
  have zg1 := g1.size
  obtain ⟨k, rfl, hk, hs⟩ := hrel
  have GL1 := g1
  refine wp_seq_k fun K4 hK4 => ?_
  refine wp_seq_k fun K5 hK5 => ?_
  refine Sb 19 rfl ?_  -- 2
  refine S_val (Y_move rfl) ?_
  refine S_val (Y_move rfl) ?_
  refine S_val (Y_len Try.underlying23 rfl) ?_
  refine S_val (Y_lss rfl rfl) ?_
  refine S_nl rfl rfl ?_
  refine th_n (hK5 _ _ ?_)
  clear hK5 K5
  refine S_if rfl (fun hb1 => ?_) (fun hb1 => ?_)  -- c1
  · -- c1T
   replace hb1 := nb_tt hb1
   have hk1 : k < o.length := by omega
   obtain ⟨g2, o2, rfl, hp2, hc2⟩ := hE.int hk1
   refine wp_skip ?_
   refine th_n (hK4 _ _ ?_)
   clear hK4 K4
   refine wp_seq_k fun K6 hK6 => ?_
   refine wp_block ?_
   refine wp_seq_k fun K7 hK7 => ?_
   refine Sb 19 rfl ?_  -- 4
   refine S_val (Y_move rfl) ?_
   refine S_val (Y_move rfl) ?_
   refine S_val (Y_index Try.underlying23 sz3 rfl rfl (by first | assumption | omega)) ?_
   refine S_val (Y_load Try.underlying3 rfl rfl (by first | assumption)) ?_  -- l1
   refine S_val (Y_move rfl) ?_
   refine S_val (Y_eql rfl rfl) ?_
   refine S_nl rfl rfl ?_
   refine th_n (hK7 _ _ ?_)
   clear hK7 K7
   refine S_if rfl (fun hb2 => ?_) (fun hb2 => ?_)  -- c2
   · -- c2T
    replace hb2 := nb_tt hb2
    refine wp_seq_k fun K8 hK8 => ?_
    refine Sb 19 rfl ?_  -- 5
    refine S_val (Y_move rfl) ?_
    refine S_val (Y_assign rfl) ?_
    refine S_nl rfl rfl ?_
    refine th_n (hK8 _ _ ?_)
    clear hK8 K8
    refine wp_ret ?_
    refine ib_r ?_
    refine th_r ?_
    try clear GL1
    refine th_r ?_
    refine ib_r ?_
    refine th_r ?_
    clear hK6 K6 hK2 K2
    refine ret_r1 rfl rfl ?_  -- r1
    exact ⟨by rw [nameIn_at hk1 hs hb2], G⟩
   · -- c2F
    replace hb2 := nb_tf hb2
    refine wp_skip ?_
    refine ib_n ?_
    refine th_n (hK6 _ _ ?_)
    clear hK6 K6
    refine Sb 19 rfl ?_  -- 3
    refine S_val (Y_move rfl) ?_
    refine S_val (Y_inc rfl rfl (by omega)) ?_
    refine S_val (Y_assign rfl) ?_
    refine S_nl rfl rfl ?_
    refine th_n ?_
    go_roundw  -- e1 of L1
    case rel =>
     refine ⟨?_, GL1⟩
     exact ⟨k + 1, rfl, by omega, notMem_take hk1 hs hb2⟩
    case measure =>
     exact dec_nat (by omega)
  · -- c1F
   replace hb1 := nb_tf hb1
   refine wp_exit ?_
   refine th_x ?_
   try clear GL1
   refine th_x ?_
   refine ib_e ?_
   refine th_n (hK2 _ _ ?_)
   clear hK4 K4 hK2 K2
   refine wp_seq_k fun K9 hK9 => ?_
   refine Sb 19 rfl ?_  -- 6
   refine S_val (Y_assign rfl) ?_
   refine S_nl rfl rfl ?_
   refine th_n (hK9 _ _ ?_)
   clear hK9 K9
   refine wp_ret ?_
   refine ret_r1 rfl rfl ?_  -- r2
   rw [List.take_of_length_le (by omega)] at hs
   exact ⟨by rw [nameIn_no hs], G⟩
set_option maxHeartbeats 400000 in
set_option maxRecDepth 20000 in
theorem impl_sameInts_c (P1 P2 : Nat → Prop) (A B : Option Addr) (xs ys : List Int) (c d : Nat) (w : World) (hA : R1 P1 w A (ints xs)) (hB : R1 P2 w B (ints ys)) (hx : xs.length ≤ 9223372036854775807) :
    Calls Try.prog 75 #[.slice A xs.length c, .slice B ys.length d] w (Ret fun v w' => v = .bool (decide (xs = ys)) ∧ Grow w w') := by
 refine enter Try.func75 rfl Try.ntmps75 (L := [_,_,_,_,_,_,_,_,_,_,_,_,_,_,_,_,_,_,_,_,_,_,_,_,_,_]) rfl ?_
 have G := Mod.refl No w
 have hA0 := hA
 have hB0 := hB
 refine wp_seq_k fun K1 hK1 => ?_
 refine Sb 26 rfl ?_  -- 0
 refine S_val (Y_assign rfl) ?_
 refine S_nl rfl rfl ?_
 refine th_n (hK1 _ _ ?_)
 clear hK1 K1
 refine wp_seq_k fun K2 hK2 => ?_
 refine wp_seq_k fun K3 hK3 => ?_
 refine Sb 26 rfl ?_  -- 1
 refine S_val (Y_move rfl) ?_
 refine S_val (Y_len Try.underlying23 rfl) ?_
 refine S_val (Y_move rfl) ?_
 refine S_val (Y_len Try.underlying23 rfl) ?_
 refine S_val (Y_neq rfl rfl) ?_
 refine S_nl rfl rfl ?_
 refine th_n (hK3 _ _ ?_)
 clear hK3 K3
 refine S_if rfl (fun hb1 => ?_) (fun hb1 => ?_)  -- c1
 · -- c1T
  replace hb1 := nb_nt hb1
  refine wp_seq_k fun K4 hK4 => ?_
  refine Sb 26 rfl ?_  -- 2
  refine S_val (Y_assign rfl) ?_
  refine S_nl rfl rfl ?_
  refine th_n (hK4 _ _ ?_)
  clear hK4 K4
  refine wp_ret ?_
  refine th_r ?_
  clear hK2 K2
  refine ret_r1 rfl rfl ?_  -- r1
  exact ⟨bF (fun e => hb1 (by rw [e])), G⟩
 · -- c1F
  replace hb1 := nb_nf hb1
  refine wp_skip ?_
  refine th_n (hK2 _ _ ?_)
  clear hK2 K2
  refine wp_seq_k fun K5 hK5 => ?_
  refine wp_seq_k fun K6 hK6 => ?_
  refine Sb 26 rfl ?_  -- 3
  refine S_val (Y_move rfl) ?_
  refine S_val (Y_len Try.underlying23 rfl) ?_
  refine S_val (Y_move rfl) ?_
  refine S_nl rfl rfl ?_
  refine th_n (hK6 _ _ ?_)
  clear hK6 K6
  refine wp_block ?_
  go_loopw [13] (fun u13 wr => (∃ k : Nat, u13 = .int .i64 k ∧ k ≤ xs.length ∧ xs.take k = ys.take k) ∧ Mod No w wr) (fun u13 wr => xs.length - (intOf u13).toNat)  -- L1
  case atStart =>
   refine ⟨?_, Mod.refl _ _⟩
   exact ⟨0, rfl, by omega, by simp⟩
  case round =>
   obtain ⟨w1, rfl⟩ : ∃ x : World, x = wr := ⟨_, rfl⟩
   obtain ⟨hrel, g1⟩ := hrel
   replace hA := hA.grow g1
   replace hB := hB.grow g1
   replace G := G.grow g1
   have zg1 := g1.size
   obtain ⟨k, rfl, hk, hs⟩ := hrel
   have GL1 := g1
   refine wp_seq_k fun K7 hK7 => ?_
   refine Sb 26 rfl ?_  -- 4
   refine S_val (Y_lss rfl rfl) ?_
   refine S_nl rfl rfl ?_
   refine th_n (hK7 _ _ ?_)
   clear hK7 K7
   refine wp_seq_k fun K8 hK8 => ?_
   refine S_if rfl (fun hb2 => ?_) (fun hb2 => ?_)  -- c2
   · -- c2T
    replace hb2 := nb_tt hb2
    refine wp_skip ?_
    refine th_n (hK8 _ _ ?_)
    clear hK8 K8
    refine wp_seq_k fun K9 hK9 => ?_
    refine wp_block ?_
    refine wp_seq_k fun K10 hK10 => ?_
    refine Sb 26 rfl ?_  -- 5
    refine S_val (Y_move rfl) ?_
    refine S_val (Y_assign rfl) ?_
    refine S_nl rfl rfl ?_
    refine th_n (hK10 _ _ ?_)
    clear hK10 K10
    refine wp_seq_k fun K11 hK11 => ?_
    refine D_start 9 26 (fun w => Mod (No) w) follows rfl rfl ?_  -- d1 r6
    intro w2 g2
    replace hA := hA.grow g2
    replace hB := hB.grow g2
    replace G := G.grow g2
    replace GL1 := GL1.grow g2
    have zg2 := g2.size
    have GS2 := Mod.refl (No) w2
    obtain ⟨g1, o1, rfl, hp1, hc1⟩ := hA.int (k := k) (by omega)
    obtain ⟨g2, o2, rfl, hp2, hc2⟩ := hB.int (k := k) (by omega)
    refine Dq (i := 0) rfl GS2 (fun _ _ => Y_move rfl) ?_
    refine Dq (i := 1) rfl GS2 (fun _ _ => Y_move rfl) ?_
    refine Dq (i := 2) rfl GS2 (fun _ _ => Y_index Try.underlying23 sz3 rfl rfl (by first | assumption | omega)) ?_
    refine Dq (i := 3) rfl GS2 (fun _ hs => Y_load Try.underlying3 rfl rfl (by first | exact hs.cell0 (by assumption))) ?_
    refine Dq (i := 4) rfl GS2 (fun _ _ => Y_move rfl) ?_
    refine Dq (i := 5) rfl GS2 (fun _ _ => Y_move rfl) ?_
    refine Dq (i := 6) rfl GS2 (fun _ _ => Y_index Try.underlying23 sz3 rfl rfl (by first | assumption | omega)) ?_
    refine Dq (i := 7) rfl GS2 (fun _ hs => Y_load Try.underlying3 rfl rfl (by first | exact hs.cell0 (by assumption))) ?_
    refine Dq (i := 8) rfl GS2 (fun _ _ => Y_neq rfl rfl) ?_
    refine D_en (by kernel_rfl) rfl rfl ?_
    refine th_n (hK11 _ _ ?_)
    clear hK11 K11
    refine S_if rfl (fun hb3 => ?_) (fun hb3 => ?_)  -- c3
    · -- c3T
     replace hb3 := nb_nt hb3
     refine wp_seq_k fun K12 hK12 => ?_
     refine Sb 26 rfl ?_  -- 7
     refine S_val (Y_assign rfl) ?_
     refine S_nl rfl rfl ?_
     refine th_n (hK12 _ _ ?_)
     clear hK12 K12
     refine wp_ret ?_
     refine ib_r ?_
     refine th_r ?_
     try clear GL1
     refine th_r ?_
     refine ib_r ?_
     refine th_r ?_
     clear hK9 K9 hK5 K5
     refine ret_r1 rfl rfl ?_  -- r2
     exact ⟨bF (fun e => hb3 (by subst e; rfl)), G⟩
    · -- c3F
     replace hb3 := nb_nf hb3
     refine wp_skip ?_
     refine ib_n ?_
     refine th_n (hK9 _ _ ?_)
     clear hK9 K9
     refine Sb 26 rfl ?_  -- 8
     refine S_val (Y_inc rfl rfl (by omega)) ?_
     refine S_val (Y_move rfl) ?_
     refine S_nl rfl rfl ?_
     refine th_n ?_
     go_roundw  -- e1 of L1
     case rel =>
      refine ⟨?_, GL1⟩
      exact ⟨k + 1, rfl, by omega, take_eq hs (by omega) (by omega) hb3⟩
     case measure =>
      exact dec_nat (by omega)
   · -- c2F
    replace hb2 := nb_tf hb2
    refine wp_exit ?_
    refine th_x ?_
    try clear GL1
    refine th_x ?_
    refine ib_e ?_
    refine th_n (hK5 _ _ ?_)
    clear hK8 K8 hK5 K5
    refine wp_seq_k fun K13 hK13 => ?_
    refine Sb 26 rfl ?_  -- 9
    refine S_val (Y_assign rfl) ?_
    refine S_nl rfl rfl ?_
    refine th_n (hK13 _ _ ?_)
    clear hK13 K13
    refine wp_ret ?_
    refine ret_r1 rfl rfl ?_  -- r3
    exact ⟨bT (take_all hs (by omega) (by omega)), G⟩
end
/-! WalkV -/
section
open Go Go.RowKit
attribute [local irreducible] wpList wpAnyH Code.wp dOp
set_option maxHeartbeats 400000 in
set_option maxRecDepth 20000 in
theorem impl_ViewOf_c (Pr : Nat → Prop) (A B : Option Addr) (h : LH) (c d : Nat) (w : World) (hA : RC Pr w A h.cells) (hB : R1 Pr w B (ints h.roots)) (hz : hsize h ≤ 1048576) :
    Calls Try.prog 30 #[.agg #[.slice A h.cells.length c, .slice B h.roots.length d]] w (Ret fun v w' => ∃ A1 q cap, v = .slice A1 q cap ∧ q = (viewV h).length ∧ OW (fun i => w.heap.size ≤ i) w' 3 1 A1 q cap (ints (viewV h)) ∧ Grow w w') := by
 have hz1 := hsize_cells h
 have hz2 := hsize_roots h
 refine enter Try.func30 rfl Try.ntmps30 (L := [_,_,_,_,_,_,_,_,_,_,_,_,_,_,_,_,_,_,_,_,_,_,_,_,_,_,_,_,_,_,_,_,_,_,_,_,_,_,_,_,_,_,_,_,_,_,_,_,_,_]) rfl ?_
 have G := Mod.refl No w
 have hA0 := hA
 have hB0 := hB
 refine wp_seq_k fun K1 hK1 => ?_
 refine Sb 50 rfl ?_  -- 0
 refine S_box (cs := [_, _]) rfl rfl ?_
 intro b1 w1 fb1 g1 B1
 have lb1 := B1.lt
 replace hA := hA.grow g1
 replace hB := hB.grow g1
 replace G := G.grow g1
 have zg1 := g1.size
 refine S_val (Y_assign rfl) ?_
 refine S_nl rfl rfl ?_
 refine th_n (hK1 _ _ ?_)
 clear hK1 K1
 refine wp_seq_k fun K2 hK2 => ?_
 refine wp_seq_k fun K3 hK3 => ?_
 refine Sb 50 rfl ?_  -- 1
 refine S_val (Y_loadS Try.underlying32 rfl sz32 rfl (B1.row (by rfl))) ?_  -- l1
 refine S_call rfl en41 (impl_HeapValid_c _ _ _ _ _ _ _ (by assumption) (by assumption) (by omega)) ?_  -- k1 impl.HeapValid
 rintro v2 w2 ⟨rfl, g2⟩
 replace hA := hA.grow g2
 replace hB := hB.grow g2
 replace G := G.grow g2
 replace B1 := B1.grow g2
 have zg2 := g2.size
 refine S_val (Y_not rfl) ?_
 refine S_nl rfl rfl ?_
 refine th_n (hK3 _ _ ?_)
 clear hK3 K3
 refine S_if rfl (fun hb1 => ?_) (fun hb1 => ?_)  -- c1
 · -- c1T
  first | with_reducible (replace hb1 := nb_nt hb1) | with_reducible (replace hb1 := nb_tt hb1) | with_reducible (replace hb1 := nb_bt hb1) | skip
  refine wp_seq_k fun K4 hK4 => ?_
  refine Sb 50 rfl ?_  -- 2
  refine S_val (Y_assign rfl) ?_
  refine S_nl rfl rfl ?_
  refine th_n (hK4 _ _ ?_)
  clear hK4 K4
  refine wp_ret ?_
  refine th_r ?_
  clear hK2 K2
  refine ret_r1 rfl rfl ?_  -- r1
  exact ⟨_, _, _, rfl, by rw [viewV_f hb1]; rfl, by rw [viewV_f hb1]; exact OW.nil _ _ _ _, G⟩
 · -- c1F
  first | with_reducible (replace hb1 := nb_nf hb1) | with_reducible (replace hb1 := nb_tf hb1) | with_reducible (replace hb1 := nb_bf hb1) | skip
  have va := valid_iff.1 hb1
  have hl := va.leads
  have h40 := va.le
  have hr4 := va.roots4
  refine wp_skip ?_
  refine th_n (hK2 _ _ ?_)
  clear hK2 K2
  refine wp_seq_k fun K5 hK5 => ?_
  refine Sb 50 rfl ?_  -- 3
  refine S_val (Y_loadS Try.underlying32 rfl sz32 rfl (B1.row (by rfl))) ?_  -- l2
  refine S_call rfl en78 (impl_metOrder_c _ _ _ _ _ _ _ (by assumption) (by assumption) (by omega) (by assumption) (by omega)) ?_  -- k2 impl.metOrder
  rintro v3 w3 ⟨A3, q3, cap3, rfl, hq3, O3, g3⟩
  replace hA := hA.grow g3
  replace hB := hB.grow g3
  replace G := G.grow g3
  replace B1 := B1.grow g3
  have zg3 := g3.size
  subst hq3
  replace O3 := O3.lt
  have hbn : Bnd h.cells.length (orderL h.cells h.roots nn) := orderL_bnd hl
  have hol := hbn.len
  have hRo := O3.r1
  refine S_val (Y_assign rfl) ?_
  refine S_nl rfl rfl ?_
  refine th_n (hK5 _ _ ?_)
  clear hK5 K5
  refine wp_seq_k fun K6 hK6 => ?_
  refine Sb 50 rfl ?_  -- 4
  refine S_val (Y_move rfl) ?_
  refine S_val (Y_field Try.underlying32 rfl fz32_0 (by decide) rfl) ?_
  refine S_val (Y_load Try.underlying30 rfl rfl (B1.at (by rfl))) ?_  -- l3
  refine S_val (Y_len Try.underlying30 rfl) ?_
  refine S_call rfl en79 (impl_numbersIn_c _ _ _ _ _ _ hRo hbn (by omega)) ?_  -- k3 impl.numbersIn
  rintro v4 w4 ⟨b4, rfl, fb4, B4, g4⟩
  replace hA := hA.grow g4
  replace hB := hB.grow g4
  replace hRo := hRo.grow g4
  replace G := G.grow g4
  replace B1 := B1.grow g4
  have zg4 := g4.size
  have lb4 := B4.lt
  have hRn := R1.of_blkE B4
  refine S_val (Y_assign rfl) ?_
  refine S_nl rfl rfl ?_
  refine th_n (hK6 _ _ ?_)
  clear hK6 K6
  refine wp_seq_k fun K7 hK7 => ?_
  refine Sb 50 rfl ?_  -- 5
  refine S_val (Y_field Try.underlying32 rfl fz32_1 (by decide) rfl) ?_
  refine S_val (Y_load Try.underlying23 rfl rfl (B1.at (by rfl))) ?_  -- l4
  refine S_val (Y_move rfl) ?_
  refine S_call rfl en80 (impl_renamed_c _ _ _ _ _ (orderL h.cells h.roots nn) _ _ _ _ hB hRn (by omega) (valid_roots va) (fun x hx => (hbn.2 x hx).1)) ?_  -- k4 impl.renamed
  rintro v5 w5 ⟨A5, q5, cap5, rfl, hq5, O5, g5⟩
  replace hA := hA.grow g5
  replace hB := hB.grow g5
  replace hRo := hRo.grow g5
  replace hRn := hRn.grow g5
  replace G := G.grow g5
  replace B1 := B1.grow g5
  replace B4 := B4.grow g5
  have zg5 := g5.size
  subst hq5
  have O1 := O5
  refine S_val (Y_assign rfl) ?_
  refine S_nl rfl rfl ?_
  refine th_n (hK7 _ _ ?_)
  clear hK7 K7
  refine wp_seq_k fun K8 hK8 => ?_
  refine wp_seq_k fun K9 hK9 => ?_
  refine Sb 50 rfl ?_  -- 6
  refine S_val (Y_move rfl) ?_
  refine S_val (Y_len Try.underlying23 rfl) ?_
  refine S_val (Y_move rfl) ?_
  refine S_nl rfl rfl ?_
  refine th_n (hK9 _ _ ?_)
  clear hK9 K9
  refine wp_block ?_
  obtain ⟨wz, hwz⟩ : ∃ x, x = w.heap.size := ⟨_, rfl⟩
  go_loopw [5, 25] (fun u5 u25 wr => (∃ (k q cap : Nat) (A1 : Option Addr), u25 = .int .i64 k ∧ u5 = .slice A1 q cap ∧ k ≤ (orderL h.cells h.roots nn).length ∧ q = (viewK h.cells h.roots (orderL h.cells h.roots nn) k).length ∧ OW (fun i => w4.heap.size ≤ i) wr 3 1 A1 q cap (ints (viewK h.cells h.roots (orderL h.cells h.roots nn) k))) ∧ Mod (fun i => w4.heap.size ≤ i) w5 wr) (fun u5 u25 wr => (orderL h.cells h.roots nn).length - (intOf u25).toNat)  -- L1
  case atStart =>
   refine ⟨?_, Mod.refl _ _⟩
   exact ⟨0, _, _, _, rfl, rfl, by omega, by rw [viewK_zero, List.length_map], by rw [viewK_zero]; exact O1⟩
  case round =>
   obtain ⟨w6, rfl⟩ : ∃ x : World, x = wr := ⟨_, rfl⟩
   obtain ⟨hrel, g6⟩ := hrel
   clear O1
   replace G := G.abv g6
   replace hA := hA0.grow G
   replace hB := hB0.grow G
   replace hRo := hRo.md g6
   replace hRn := hRn.md g6
   replace B1 := B1.md g6
   replace B4 := B4.md g6
   have zg6 := g6.size
   obtain ⟨k, q1, cap1, A1, rfl, rfl, hk, hq1, O1⟩ := hrel
   have hvl := viewK_len va hbn hk
   have GL6 := g6
   refine wp_seq_k fun K10 hK10 => ?_
   refine Sb 50 rfl ?_  -- 7
   refine S_val (Y_lss rfl rfl) ?_
   refine S_nl rfl rfl ?_
   refine th_n (hK10 _ _ ?_)
   clear hK10 K10
   refine wp_seq_k fun K11 hK11 => ?_
   refine S_if rfl (fun hb2 => ?_) (fun hb2 => ?_)  -- c2
   · -- c2T
    replace hb2 := nb_tt hb2
    have hk1 : k < (orderL h.cells h.roots nn).length := by omega
    obtain ⟨n, hn, hnN, hng⟩ := bnd_at hbn hk1
    obtain ⟨g4, o4, rfl, hp4, hc4⟩ := hRo.int hk1
    rw [hn] at hc4
    obtain ⟨g2, o2, E2, d2, rfl, hp2, cc20, hE20⟩ := hA0.cell hnN
    have cc2 := cc20.grow G
    have hE2 := hE20.grow G
    have hr3 := va.refs3 hnN
    have hvs := viewK_succ (roots := h.roots) hk1 hn hnN
    replace O1 := O1.lt
    refine wp_skip ?_
    refine th_n (hK11 _ _ ?_)
    clear hK11 K11
    refine wp_seq_k fun K12 hK12 => ?_
    refine wp_block ?_
    refine wp_seq_k fun K13 hK13 => ?_
    refine Sb 50 rfl ?_  -- 8
    refine S_val (Y_index Try.underlying23 sz3 rfl rfl (by first | assumption | omega)) ?_
    refine S_val (Y_load Try.underlying3 rfl rfl (by first | assumption | exact cc2.at (by rfl) | exact B1.at (by rfl) | exact B4.at (by rfl))) ?_  -- l5
    refine S_val (Y_assign rfl) ?_
    refine S_nl rfl rfl ?_
    refine th_n (hK13 _ _ ?_)
    clear hK13 K13
    refine wp_seq_k fun K14 hK14 => ?_
    refine Sb 50 rfl ?_  -- 9
    refine S_val (Y_field Try.underlying32 rfl fz32_0 (by decide) rfl) ?_
    refine S_val (Y_load Try.underlying30 rfl rfl (B1.at (by rfl))) ?_  -- l6
    refine S_val (Y_move rfl) ?_
    refine S_val (Y_index Try.underlying30 sz63 rfl rfl (by first | assumption | omega)) ?_
    refine S_val (Y_loadS Try.underlying63 rfl sz63 rfl (by first | assumption | exact B1.row (by rfl) | exact B4.row (by rfl))) ?_  -- l7
    refine S_alloc (cs := [_, _, _]) zr63 rfl ?_
    intro b7 w7 fb7 g7 B7
    have lb7 := B7.lt
    replace hA := hA.grow g7
    replace hB := hB.grow g7
    replace cc2 := cc2.grow g7
    replace hE2 := hE2.grow g7
    replace hRo := hRo.grow g7
    replace hRn := hRn.grow g7
    replace O1 := O1.grow g7
    replace G := G.grow g7
    replace GL6 := GL6.grow g7
    replace B1 := B1.grow g7
    replace B4 := B4.grow g7
    have zg7 := g7.size
    refine S_stM (pre := []) (old := [_, _, _]) (post := []) (vs := [_, _, _]) sz63 rfl rfl rfl (by first | rfl | assumption) B7 rfl rfl ?_
    intro w8 m8 X8
    replace B7 := Blk.eq (ys := [_, _, _]) X8 rfl
    clear X8
    replace G := G.abv m8
    first | replace GL6 := GL6.abv m8 | clear GL6
    replace hA := hA0.grow G
    replace hB := hB0.grow G
    replace cc2 := cc20.grow G
    replace hE2 := hE20.grow G
    replace hRo := hRo.md m8
    replace hRn := hRn.md m8
    replace O1 := O1.md m8
    replace B1 := B1.md m8
    replace B4 := B4.md m8
    have zm8 := m8.size
    refine S_nl rfl rfl ?_
    refine th_n (hK14 _ _ ?_)
    clear hK14 K14
    refine wp_seq_k fun K15 hK15 => ?_
    refine Sb 50 rfl ?_  -- 10
    refine S_val (Y_move rfl) ?_
    refine S_val (Y_field Try.underlying63 rfl fz63_1 (by decide) rfl) ?_
    refine S_val (Y_load Try.underlying3 rfl rfl (B7.at (by rfl))) ?_  -- l8
    refine S_val (Y_field Try.underlying63 rfl fz63_2 (by decide) rfl) ?_
    refine S_val (Y_load Try.underlying23 rfl rfl (B7.at (by rfl))) ?_  -- l9
    refine S_val (Y_len Try.underlying23 rfl) ?_
    refine S_bsN (cs := [_, _]) Try.underlying23 zr3 sz3 rfl rfl ?_
    intro b9 w9 fb9 g9 B9
    have lb9 := B9.lt
    replace hA := hA.grow g9
    replace hB := hB.grow g9
    replace cc2 := cc2.grow g9
    replace hE2 := hE2.grow g9
    replace hRo := hRo.grow g9
    replace hRn := hRn.grow g9
    replace O1 := O1.grow g9
    replace G := G.grow g9
    replace GL6 := GL6.grow g9
    replace B1 := B1.grow g9
    replace B4 := B4.grow g9
    replace B7 := B7.grow g9
    have zg9 := g9.size
    refine S_app Try.underlying23 zr3 sz3 by3 rfl rfl O1 rfl (Src.blk B9) (by simp [Value.oneCell']) (by omega) (Pr' := fun i => w4.heap.size ≤ i ∧ i ≠ b7) (fun i hi => by omega) (by omega) ?_
    intro A10 cap10 w10 X10 m10
    replace O1 := X10
    replace O1 : OW (fun i => w4.heap.size ≤ i ∧ i ≠ b7) w10 3 1 A10 (q1 + 2) cap10 (ints (viewK h.cells h.roots (orderL h.cells h.roots nn) k ++ [h.cells[n].data, (h.cells[n].refs.length : Int)])) := by rw [← app2]; exact O1
    clear X10
    replace G := G.abv m10
    replace GL6 := GL6.trn m10
    replace hA := hA0.grow G
    replace hB := hB0.grow G
    replace cc2 := cc20.grow G
    replace hE2 := hE20.grow G
    replace hRo := hRo.md m10
    replace hRn := hRn.md m10
    replace B1 := B1.md m10
    replace B4 := B4.md m10
    replace B7 := B7.md m10
    have zm10 := m10.size
    refine S_val (Y_assign rfl) ?_
    refine S_nl rfl rfl ?_
    refine th_n (hK15 _ _ ?_)
    clear hK15 K15
    refine Sb 50 rfl ?_  -- 11
    refine S_val (Y_move rfl) ?_
    refine S_val (Y_field Try.underlying63 rfl fz63_2 (by decide) rfl) ?_
    refine S_val (Y_load Try.underlying23 rfl rfl (B7.at (by rfl))) ?_  -- l10
    refine S_val (Y_move rfl) ?_
    refine S_call rfl en80 (impl_renamed_c _ _ _ _ _ (orderL h.cells h.roots nn) _ _ _ _ hE2 hRn (by omega) (valid_refs va hnN) (fun x hx => (hbn.2 x hx).1)) ?_  -- k5 impl.renamed
    rintro v11 w11 ⟨A11, q11, cap11, rfl, hq11, O11, g11⟩
    replace hA := hA.grow g11
    replace hB := hB.grow g11
    replace cc2 := cc2.grow g11
    replace hE2 := hE2.grow g11
    replace hRo := hRo.grow g11
    replace hRn := hRn.grow g11
    replace O1 := O1.grow g11
    replace G := G.grow g11
    replace GL6 := GL6.grow g11
    replace B1 := B1.grow g11
    replace B4 := B4.grow g11
    replace B7 := B7.grow g11
    have zg11 := g11.size
    subst hq11
    have hRs := O11.r1
    have hSs := Src.r1 hRs
    rw [ints_len, List.length_map] at hSs
    refine S_app Try.underlying23 zr3 sz3 by3 rfl rfl O1 (by rw [ints_len, List.length_map]; omega) hSs ints_one (by omega) (Pr' := fun i => w4.heap.size ≤ i ∧ i ≠ b7) (fun i hi => by omega) (by omega) ?_
    intro A12 cap12 w12 X12 m12
    replace O1 := X12
    rw [ints_apps, ← hvs] at O1
    clear X12
    replace G := G.abv m12
    replace GL6 := GL6.trn m12
    replace hA := hA0.grow G
    replace hB := hB0.grow G
    replace cc2 := cc20.grow G
    replace hE2 := hE20.grow G
    replace hRo := hRo.md m12
    replace hRn := hRn.md m12
    replace B1 := B1.md m12
    replace B4 := B4.md m12
    replace B7 := B7.md m12
    have zm12 := m12.size
    refine S_val (Y_assign rfl) ?_
    refine S_nl rfl rfl ?_
    refine ib_n ?_
    refine th_n (hK12 _ _ ?_)
    clear hK12 K12
    refine Sb 50 rfl ?_  -- 12
    refine S_val (Y_inc rfl rfl (by omega)) ?_
    refine S_val (Y_move rfl) ?_
    refine S_nl rfl rfl ?_
    refine th_n ?_
    go_roundw  -- e1 of L1
    case rel =>
     refine ⟨?_, GL6⟩
     exact ⟨k + 1, _, _, _, rfl, rfl, by omega, by rw [hvs, List.length_append, List.length_append, List.length_map]; simp; omega, O1.weak (fun i hi => hi.1)⟩
    case measure =>
     exact dec_nat (by omega)
   · -- c2F
    replace hb2 := nb_tf hb2
    refine wp_exit ?_
    refine th_x ?_
    try clear GL6
    refine th_x ?_
    refine ib_e ?_
    refine th_n (hK8 _ _ ?_)
    clear hK11 K11 hK8 K8
    refine wp_seq_k fun K16 hK16 => ?_
    refine Sb 50 rfl ?_  -- 13
    refine S_val (Y_move rfl) ?_
    refine S_val (Y_assign rfl) ?_
    refine S_nl rfl rfl ?_
    refine th_n (hK16 _ _ ?_)
    clear hK16 K16
    refine wp_ret ?_
    refine ret_r1 rfl rfl ?_  -- r2
    rw [viewK_all (by omega)] at hq1 O1
    exact ⟨_, _, _, rfl, by rw [viewV_t hb1]; exact hq1, by rw [viewV_t hb1]; exact O1.weak (fun i hi => by omega), G⟩
set_option maxHeartbeats 400000 in
set_option maxRecDepth 20000 in
theorem spec_ViewOf_c (Pr : Nat → Prop) (A B : Option Addr) (h : LH) (c d : Nat) (w : World) (hA : RC Pr w A h.cells) (hB : R1 Pr w B (ints h.roots)) (hz : hsize h ≤ 1048576) :
    Calls Try.prog 72 #[.agg #[.slice A h.cells.length c, .slice B h.roots.length d]] w (Ret fun v w' => ∃ A1 q cap, v = .slice A1 q cap ∧ q = (viewV h).length ∧ OW (fun i => w.heap.size ≤ i) w' 3 1 A1 q cap (ints (viewV h)) ∧ Grow w w') := by
 have hz1 := hsize_cells h
 have hz2 := hsize_roots h
 refine enter Try.func72 rfl Try.ntmps72 (L := [_,_,_,_,_,_,_,_,_,_,_,_,_,_,_,_,_,_,_,_,_,_,_,_,_,_,_,_,_,_,_,_,_,_,_,_,_,_,_,_,_,_,_,_,_,_,_,_,_,_,_,_,_,_,_,_,_,_,_,_,_,_,_,_,_,_,_,_,_,_,_,_,_]) rfl ?_
 have G := Mod.refl No w
 have hA0 := hA
 have hB0 := hB
 refine wp_seq_k fun K1 hK1 => ?_
 refine Sb 73 rfl ?_  -- 0
 refine S_box (cs := [_, _]) rfl rfl ?_
 intro b1 w1 fb1 g1 B1
 have lb1 := B1.lt
 replace hA := hA.grow g1
 replace hB := hB.grow g1
 replace G := G.grow g1
 have zg1 := g1.size
 refine S_val (Y_assign rfl) ?_
 refine S_nl rfl rfl ?_
 refine th_n (hK1 _ _ ?_)
 clear hK1 K1
 refine wp_seq_k fun K2 hK2 => ?_
 refine Sb 73 rfl ?_  -- 1
 refine S_bs0 Try.underlying23 sz3 ?_
 intro b2 w2 fb2 g2 B2
 have lb2 := B2.lt
 replace hA := hA.grow g2
 replace hB := hB.grow g2
 replace G := G.grow g2
 replace B1 := B1.grow g2
 have zg2 := g2.size
 refine S_val (Y_assign rfl) ?_
 refine S_nl rfl rfl ?_
 refine th_n (hK2 _ _ ?_)
 clear hK2 K2
 refine wp_seq_k fun K3 hK3 => ?_
 refine wp_seq_k fun K4 hK4 => ?_
 refine Sb 73 rfl ?_  -- 2
 refine S_val (Y_loadS Try.underlying32 rfl sz32 rfl (B1.row (by rfl))) ?_  -- l1
 refine S_call rfl en49 (spec_HeapValid_c _ _ _ _ _ _ _ (by assumption) (by assumption) (by omega)) ?_  -- k1 spec.HeapValid
 rintro v3 w3 ⟨rfl, g3⟩
 replace hA := hA.grow g3
 replace hB := hB.grow g3
 replace G := G.grow g3
 replace B1 := B1.grow g3
 replace B2 := B2.grow g3
 have zg3 := g3.size
 refine S_val (Y_not rfl) ?_
 refine S_nl rfl rfl ?_
 refine th_n (hK4 _ _ ?_)
 clear hK4 K4
 refine S_if rfl (fun hb1 => ?_) (fun hb1 => ?_)  -- c1
 · -- c1T
  first | with_reducible (replace hb1 := nb_nt hb1) | with_reducible (replace hb1 := nb_tt hb1) | with_reducible (replace hb1 := nb_bt hb1) | skip
  refine wp_seq_k fun K5 hK5 => ?_
  refine Sb 73 rfl ?_  -- 3
  refine S_val (Y_move rfl) ?_
  refine S_val (Y_assign rfl) ?_
  refine S_nl rfl rfl ?_
  refine th_n (hK5 _ _ ?_)
  clear hK5 K5
  refine wp_ret ?_
  refine th_r ?_
  clear hK3 K3
  refine ret_r1 rfl rfl ?_  -- r1
  exact ⟨_, _, _, rfl, by rw [viewV_f hb1]; rfl, by rw [viewV_f hb1]; exact OW.of_blk B2 rfl (by decide) (by omega), G⟩
 · -- c1F
  first | with_reducible (replace hb1 := nb_nf hb1) | with_reducible (replace hb1 := nb_tf hb1) | with_reducible (replace hb1 := nb_bf hb1) | skip
  have va := valid_iff.1 hb1
  have hl := va.leads
  have h40 := va.le
  have hr4 := va.roots4
  refine wp_skip ?_
  refine th_n (hK3 _ _ ?_)
  clear hK3 K3
  refine wp_seq_k fun K6 hK6 => ?_
  refine Sb 73 rfl ?_  -- 4
  refine S_val (Y_loadS Try.underlying32 rfl sz32 rfl (B1.row (by rfl))) ?_  -- l2
  refine S_call rfl en99 (spec_l9Order_c _ _ _ _ _ _ _ (by assumption) (by assumption) (by omega) (by assumption)) ?_  -- k2 spec.l9Order
  rintro v4 w4 ⟨A4, q4, cap4, rfl, hq4, O4, g4⟩
  replace hA := hA.grow g4
  replace hB := hB.grow g4
  replace G := G.grow g4
  replace B1 := B1.grow g4
  replace B2 := B2.grow g4
  have zg4 := g4.size
  subst hq4
  replace O4 := O4.lt
  have hbn : Bnd h.cells.length (orderL h.cells h.roots nn) := orderL_bnd hl
  have hol := hbn.len
  have hRo := O4.r1
  refine S_val (Y_assign rfl) ?_
  refine S_nl rfl rfl ?_
  refine th_n (hK6 _ _ ?_)
  clear hK6 K6
  refine wp_seq_k fun K7 hK7 => ?_
  refine wp_seq_k fun K8 hK8 => ?_
  refine Sb 73 rfl ?_  -- 5
  refine S_val (Y_assign rfl) ?_
  refine S_nl rfl rfl ?_
  refine th_n (hK8 _ _ ?_)
  clear hK8 K8
  refine wp_block ?_
  obtain ⟨wz, hwz⟩ : ∃ x, x = w4.heap.size := ⟨_, rfl⟩
  have O1 : OW (fun i => i = b2 ∨ wz ≤ i) w4 3 1 (some ⟨b2, 0, none⟩) 0 0 (ints []) := OW.of_blk B2 rfl (by decide) (.inl rfl)
  go_loopw [3, 5] (fun u3 u5 wr => (∃ (k q cap : Nat) (A1 : Option Addr), u5 = .int .i64 k ∧ u3 = .slice A1 q cap ∧ k ≤ h.roots.length ∧ q = ((h.roots.take k).map (nameIn (orderL h.cells h.roots nn))).length ∧ OW (fun i => i = b2 ∨ wz ≤ i) wr 3 1 A1 q cap (ints ((h.roots.take k).map (nameIn (orderL h.cells h.roots nn))))) ∧ Mod (fun i => i = b2 ∨ wz ≤ i) w4 wr) (fun u3 u5 wr => h.roots.length - (intOf u5).toNat)  -- L1
  case atStart =>
   refine ⟨?_, Mod.refl _ _⟩
   exact ⟨0, 0, 0, _, rfl, rfl, by omega, rfl, O1⟩
  case round =>
   obtain ⟨w5, rfl⟩ : ∃ x : World, x = wr := ⟨_, rfl⟩
   obtain ⟨hrel, g5⟩ := hrel
   clear O1
   replace G := G.abv g5
   replace hA := hA0.grow G
   replace hB := hB0.grow G
   replace hRo := hRo.md g5
   replace B1 := B1.md g5
   have zg5 := g5.size
   obtain ⟨k, q1, cap1, A1, rfl, rfl, hk, hq1, O1⟩ := hrel
   have GL5 := g5
   refine wp_seq_k fun K9 hK9 => ?_
   refine wp_seq_k fun K10 hK10 => ?_
   refine Sb 73 rfl ?_  -- 6
   refine S_val (Y_move rfl) ?_
   refine S_val (Y_field Try.underlying32 rfl fz32_1 (by decide) rfl) ?_
   refine S_val (Y_load Try.underlying23 rfl rfl (B1.at (by rfl))) ?_  -- l3
   refine S_val (Y_len Try.underlying23 rfl) ?_
   refine S_val (Y_lss rfl rfl) ?_
   refine S_nl rfl rfl ?_
   refine th_n (hK10 _ _ ?_)
   clear hK10 K10
   refine S_if rfl (fun hb2 => ?_) (fun hb2 => ?_)  -- c2
   · -- c2T
    replace hb2 := nb_tt hb2
    have hk1 : k < h.roots.length := by omega
    obtain ⟨g4, o4, rfl, hp4, hc4⟩ := hB.int hk1
    have htk := List.take_succ_eq_append_getElem hk1
    rw [List.length_map, List.length_take] at hq1
    refine wp_skip ?_
    refine th_n (hK9 _ _ ?_)
    clear hK9 K9
    refine wp_seq_k fun K11 hK11 => ?_
    refine wp_block ?_
    refine Sb 73 rfl ?_  -- 8
    refine S_val (Y_move rfl) ?_
    refine S_val (Y_move rfl) ?_
    refine S_val (Y_field Try.underlying32 rfl fz32_1 (by decide) rfl) ?_
    refine S_val (Y_load Try.underlying23 rfl rfl (B1.at (by rfl))) ?_  -- l4
    refine S_val (Y_move rfl) ?_
    refine S_val (Y_index Try.underlying23 sz3 rfl rfl (by first | assumption | omega)) ?_
    refine S_val (Y_load Try.underlying3 rfl rfl (by first | assumption | exact B1.at (by rfl))) ?_  -- l5
    refine S_call rfl en109 (spec_l9Name_c _ _ _ _ _ _ hRo (by omega)) ?_  -- k3 spec.l9Name
    rintro v6 w6 ⟨rfl, g6⟩
    replace hA := hA.grow g6
    replace hB := hB.grow g6
    replace hRo := hRo.grow g6
    replace O1 := O1.grow g6
    replace G := G.grow g6
    replace GL5 := GL5.grow g6
    replace B1 := B1.grow g6
    have zg6 := g6.size
    refine S_bs1 (cs := [_]) Try.underlying23 zr3 sz3 rfl rfl rfl ?_
    intro b7 w7 fb7 g7 B7
    have lb7 := B7.lt
    replace hA := hA.grow g7
    replace hB := hB.grow g7
    replace hRo := hRo.grow g7
    replace O1 := O1.grow g7
    replace G := G.grow g7
    replace GL5 := GL5.grow g7
    replace B1 := B1.grow g7
    have zg7 := g7.size
    refine S_app Try.underlying23 zr3 sz3 by3 rfl rfl O1 rfl (Src.blk B7) (by simp [Value.oneCell']) (by omega) (Pr' := fun i => i = b2 ∨ wz ≤ i) (fun i hi => hi) (by omega) ?_
    intro A8 cap8 w8 X8 m8
    replace O1 := X8
    rw [ints_app] at O1
    clear X8
    replace G := G.abv m8
    replace GL5 := GL5.trn m8
    replace hA := hA0.grow G
    replace hB := hB0.grow G
    replace hRo := hRo.md m8
    replace B1 := B1.md m8
    have zm8 := m8.size
    refine S_val (Y_assign rfl) ?_
    refine S_nl rfl rfl ?_
    refine ib_n ?_
    refine th_n (hK11 _ _ ?_)
    clear hK11 K11
    refine Sb 73 rfl ?_  -- 7
    refine S_val (Y_move rfl) ?_
    refine S_val (Y_inc rfl rfl (by omega)) ?_
    refine S_val (Y_assign rfl) ?_
    refine S_nl rfl rfl ?_
    refine th_n ?_
    go_roundw  -- e1 of L1
    case rel =>
     refine ⟨?_, GL5⟩
     exact ⟨k + 1, _, _, _, rfl, rfl, by omega, by rw [htk, List.map_append, List.length_append, List.length_map, List.length_take]; simp; omega, by rw [htk, List.map_append]; exact O1⟩
    case measure =>
     exact dec_nat (by omega)
   · -- c2F
    replace hb2 := nb_tf hb2
    refine wp_exit ?_
    refine th_x ?_
    try clear GL5
    refine th_x ?_
    refine ib_e ?_
    refine th_n (hK7 _ _ ?_)
    clear hK9 K9 hK7 K7
    refine wp_seq_k fun K12 hK12 => ?_
    refine wp_seq_k fun K13 hK13 => ?_
    refine Sb 73 rfl ?_  -- 9
    refine S_val (Y_assign rfl) ?_
    refine S_nl rfl rfl ?_
    refine th_n (hK13 _ _ ?_)
    clear hK13 K13
    refine wp_block ?_
    have hkR : k = h.roots.length := by omega
    rw [hkR, List.take_length] at hq1 O1
    go_loopw [3, 6] (fun u3 u6 wr => (∃ (k q cap : Nat) (A1 : Option Addr), u6 = .int .i64 k ∧ u3 = .slice A1 q cap ∧ k ≤ (orderL h.cells h.roots nn).length ∧ q = (viewK h.cells h.roots (orderL h.cells h.roots nn) k).length ∧ OW (fun i => i = b2 ∨ wz ≤ i) wr 3 1 A1 q cap (ints (viewK h.cells h.roots (orderL h.cells h.roots nn) k))) ∧ Mod (fun i => i = b2 ∨ wz ≤ i) w5 wr) (fun u3 u6 wr => (orderL h.cells h.roots nn).length - (intOf u6).toNat)  -- L2
    case atStart =>
     refine ⟨?_, Mod.refl _ _⟩
     exact ⟨0, _, _, _, rfl, rfl, by omega, by rw [viewK_zero]; exact hq1, by rw [viewK_zero]; exact O1⟩
    case round =>
     obtain ⟨w9, rfl⟩ : ∃ x : World, x = wr := ⟨_, rfl⟩
     obtain ⟨hrel, g9⟩ := hrel
     clear O1
     replace G := G.abv g9
     replace hA := hA0.grow G
     replace hB := hB0.grow G
     replace hRo := hRo.md g9
     replace B1 := B1.md g9
     have zg9 := g9.size
     obtain ⟨k, q1, cap1, A1, rfl, rfl, hk, hq1, O1⟩ := hrel
     have hvl := viewK_len va hbn hk
     have GL9 := g9
     refine wp_seq_k fun K14 hK14 => ?_
     refine wp_seq_k fun K15 hK15 => ?_
     refine Sb 73 rfl ?_  -- 10
     refine S_val (Y_move rfl) ?_
     refine S_val (Y_move rfl) ?_
     refine S_val (Y_len Try.underlying23 rfl) ?_
     refine S_val (Y_lss rfl rfl) ?_
     refine S_nl rfl rfl ?_
     refine th_n (hK15 _ _ ?_)
     clear hK15 K15
     refine S_if rfl (fun hb3 => ?_) (fun hb3 => ?_)  -- c3
     · -- c3T
      replace hb3 := nb_tt hb3
      have hk1 : k < (orderL h.cells h.roots nn).length := by omega
      obtain ⟨n, hn, hnN, hng⟩ := bnd_at hbn hk1
      obtain ⟨g2, o2, E2, d2, rfl, hp2, cc20, hE20⟩ := hA0.cell hnN
      have cc2 := cc20.grow G
      have hE2 := hE20.grow G
      have hr3 := va.refs3 hnN
      have hvs := viewK_succ (roots := h.roots) hk1 hn hnN
      replace O1 := O1.lt
      refine wp_skip ?_
      refine th_n (hK14 _ _ ?_)
      clear hK14 K14
      refine wp_seq_k fun K16 hK16 => ?_
      refine wp_block ?_
      refine wp_seq_k fun K17 hK17 => ?_
      refine D_start 10 73 (fun w => Mod (No) w) follows rfl rfl ?_  -- d1 r12
      intro w10 g10
      replace hA := hA.grow g10
      replace hB := hB.grow g10
      replace cc2 := cc2.grow g10
      replace hE2 := hE2.grow g10
      replace hRo := hRo.grow g10
      replace O1 := O1.grow g10
      replace G := G.grow g10
      replace GL9 := GL9.grow g10
      replace B1 := B1.grow g10
      have zg10 := g10.size
      have GS10 := Mod.refl (No) w10
      obtain ⟨g4, o4, rfl, hp4, hc4⟩ := hRo.int hk1
      rw [hn] at hc4
      have B1d10 := B1
      refine Dq (i := 0) rfl GS10 (fun _ _ => Y_field Try.underlying32 rfl fz32_0 (by decide) rfl) ?_
      refine Dq (i := 1) rfl GS10 (fun _ hs => Y_load Try.underlying30 rfl rfl (hs.cell0 (B1.at (by rfl)))) ?_
      refine Dq (i := 2) rfl GS10 (fun _ _ => Y_move rfl) ?_
      refine Dq (i := 3) rfl GS10 (fun _ _ => Y_move rfl) ?_
      refine Dq (i := 4) rfl GS10 (fun _ _ => Y_index Try.underlying23 sz3 rfl rfl (by first | assumption | omega)) ?_
      refine Dq (i := 5) rfl GS10 (fun _ hs => Y_load Try.underlying3 rfl rfl (by first | exact hs.cell0 (by assumption) | exact hs.cell0 (cc2.at (by rfl)) | exact hs.cell0 (B1.at (by rfl)))) ?_
      refine Dq (i := 6) rfl GS10 (fun _ _ => Y_index Try.underlying30 sz63 rfl rfl (by first | assumption | omega)) ?_
      refine Dq (i := 7) rfl GS10 (fun _ hs => Y_loadS Try.underlying63 rfl sz63 rfl (by first | exact hs.cells0 (by assumption) | exact hs.cells0 (B1.row (by rfl)))) ?_
      refine D_1 (i := 8) (by kernel_rfl) ?_
      refine E_alloc (cs := [_, _, _]) rfl zr63 rfl (fun b11 w11 fb11 g11 B11 => ⟨GS10.grow g11, ?_⟩)
      have lb11 := B11.lt
      replace hA := hA.grow g11
      replace hB := hB.grow g11
      replace cc2 := cc2.grow g11
      replace hE2 := hE2.grow g11
      replace hRo := hRo.grow g11
      replace O1 := O1.grow g11
      replace G := G.grow g11
      replace GL9 := GL9.grow g11
      replace GS10 := GS10.grow g11
      replace B1 := B1.grow g11
      have zg11 := g11.size
      refine D_1 (i := 9) (by kernel_rfl) ?_
      refine E_stM (pre := []) (old := [_, _, _]) (post := []) (vs := [_, _, _]) (i := 9) rfl sz63 rfl rfl rfl (by first | rfl | assumption) B11 rfl rfl ?_
      intro w12 m12 X12
      replace B11 := Blk.eq (ys := [_, _, _]) X12 rfl
      clear X12
      replace G := G.abv m12
      first | replace GL9 := GL9.abv m12 | clear GL9
      replace GS10 := GS10.abv m12
      replace hA := hA0.grow G
      replace hB := hB0.grow G
      replace cc2 := cc20.grow G
      replace hE2 := hE20.grow G
      replace hRo := hRo.md m12
      replace O1 := O1.md m12
      replace B1 := B1.md m12
      have zm12 := m12.size
      refine ⟨GS10, ?_⟩
      refine D_en (by kernel_rfl) rfl rfl ?_
      refine th_n (hK17 _ _ ?_)
      clear hK17 K17
      refine wp_seq_k fun K18 hK18 => ?_
      refine Sb 73 rfl ?_  -- 13
      refine S_val (Y_move rfl) ?_
      refine S_val (Y_field Try.underlying63 rfl fz63_1 (by decide) rfl) ?_
      refine S_val (Y_load Try.underlying3 rfl rfl (B11.at (by rfl))) ?_  -- l9
      refine S_val (Y_field Try.underlying63 rfl fz63_2 (by decide) rfl) ?_
      refine S_val (Y_load Try.underlying23 rfl rfl (B11.at (by rfl))) ?_  -- l10
      refine S_val (Y_len Try.underlying23 rfl) ?_
      refine S_bsN (cs := [_, _]) Try.underlying23 zr3 sz3 rfl rfl ?_
      intro b13 w13 fb13 g13 B13
      have lb13 := B13.lt
      replace hA := hA.grow g13
      replace hB := hB.grow g13
      replace cc2 := cc2.grow g13
      replace hE2 := hE2.grow g13
      replace hRo := hRo.grow g13
      replace O1 := O1.grow g13
      replace G := G.grow g13
      replace GL9 := GL9.grow g13
      replace B1 := B1.grow g13
      replace B11 := B11.grow g13
      have zg13 := g13.size
      refine S_app Try.underlying23 zr3 sz3 by3 rfl rfl O1 rfl (Src.blk B13) (by simp [Value.oneCell']) (by omega) (Pr' := fun i => (i = b2 ∨ wz ≤ i) ∧ i ≠ b11) (fun i hi => by omega) (by omega) ?_
      intro A14 cap14 w14 X14 m14
      replace O1 := X14
      replace O1 : OW (fun i => (i = b2 ∨ wz ≤ i) ∧ i ≠ b11) w14 3 1 A14 (q1 + 2) cap14 (ints (viewK h.cells h.roots (orderL h.cells h.roots nn) k ++ [h.cells[n].data, (h.cells[n].refs.length : Int)])) := by rw [← app2]; exact O1
      clear X14
      replace G := G.abv m14
      replace GL9 := GL9.trn m14
      replace hA := hA0.grow G
      replace hB := hB0.grow G
      replace cc2 := cc20.grow G
      replace hE2 := hE20.grow G
      replace hRo := hRo.md m14
      replace B1 := B1.md m14
      replace B11 := B11.md m14
      have zm14 := m14.size
      refine S_val (Y_assign rfl) ?_
      refine S_nl rfl rfl ?_
      refine th_n (hK18 _ _ ?_)
      clear hK18 K18
      refine wp_seq_k fun K19 hK19 => ?_
      refine Sb 73 rfl ?_  -- 14
      refine S_val (Y_assign rfl) ?_
      refine S_nl rfl rfl ?_
      refine th_n (hK19 _ _ ?_)
      clear hK19 K19
      refine wp_block ?_
      go_loopw [3, 8] (fun u3 u8 wr => (∃ (j q cap : Nat) (A1 : Option Addr), u8 = .int .i64 j ∧ u3 = .slice A1 q cap ∧ j ≤ h.cells[n].refs.length ∧ q = q1 + 2 + j ∧ OW (fun i => (i = b2 ∨ wz ≤ i) ∧ i ≠ b11) wr 3 1 A1 q cap (ints (viewK h.cells h.roots (orderL h.cells h.roots nn) k ++ [h.cells[n].data, (h.cells[n].refs.length : Int)] ++ (h.cells[n].refs.take j).map (nameIn (orderL h.cells h.roots nn))))) ∧ Mod (fun i => (i = b2 ∨ wz ≤ i) ∧ i ≠ b11) w14 wr) (fun u3 u8 wr => h.cells[n].refs.length - (intOf u8).toNat)  -- L3
      case atStart =>
       refine ⟨?_, Mod.refl _ _⟩
       exact ⟨0, _, _, _, rfl, rfl, by omega, rfl, by simpa using O1⟩
      case round =>
       obtain ⟨w15, rfl⟩ : ∃ x : World, x = wr := ⟨_, rfl⟩
       obtain ⟨hrel, g15⟩ := hrel
       clear O1
       replace G := G.abv g15
       replace GL9 := GL9.trn g15
       replace hA := hA0.grow G
       replace hB := hB0.grow G
       replace cc2 := cc20.grow G
       replace hE2 := hE20.grow G
       replace hRo := hRo.md g15
       replace B1 := B1.md g15
       replace B11 := B11.md g15
       have zg15 := g15.size
       obtain ⟨j, q2, cap2, A2, rfl, rfl, hj, hq2, O1⟩ := hrel
       have GL15 := g15
       refine wp_seq_k fun K20 hK20 => ?_
       refine wp_seq_k fun K21 hK21 => ?_
       refine Sb 73 rfl ?_  -- 15
       refine S_val (Y_move rfl) ?_
       refine S_val (Y_field Try.underlying63 rfl fz63_2 (by decide) rfl) ?_
       refine S_val (Y_load Try.underlying23 rfl rfl (B11.at (by rfl))) ?_  -- l11
       refine S_val (Y_len Try.underlying23 rfl) ?_
       refine S_val (Y_lss rfl rfl) ?_
       refine S_nl rfl rfl ?_
       refine th_n (hK21 _ _ ?_)
       clear hK21 K21
       refine S_if rfl (fun hb4 => ?_) (fun hb4 => ?_)  -- c4
       · -- c4T
        replace hb4 := nb_tt hb4
        have hj1 : j < h.cells[n].refs.length := by omega
        obtain ⟨g5, o5, rfl, hp5, hc5⟩ := hE2.int hj1
        have htj := List.take_succ_eq_append_getElem hj1
        refine wp_skip ?_
        refine th_n (hK20 _ _ ?_)
        clear hK20 K20
        refine wp_seq_k fun K22 hK22 => ?_
        refine wp_block ?_
        refine Sb 73 rfl ?_  -- 17
        refine S_val (Y_move rfl) ?_
        refine S_val (Y_move rfl) ?_
        refine S_val (Y_field Try.underlying63 rfl fz63_2 (by decide) rfl) ?_
        refine S_val (Y_load Try.underlying23 rfl rfl (B11.at (by rfl))) ?_  -- l12
        refine S_val (Y_move rfl) ?_
        refine S_val (Y_index Try.underlying23 sz3 rfl rfl (by first | assumption | omega)) ?_
        refine S_val (Y_load Try.underlying3 rfl rfl (by first | assumption | exact cc2.at (by rfl) | exact B1.at (by rfl) | exact B11.at (by rfl))) ?_  -- l13
        refine S_call rfl en109 (spec_l9Name_c _ _ _ _ _ _ hRo (by omega)) ?_  -- k4 spec.l9Name
        rintro v16 w16 ⟨rfl, g16⟩
        replace hA := hA.grow g16
        replace hB := hB.grow g16
        replace cc2 := cc2.grow g16
        replace hE2 := hE2.grow g16
        replace hRo := hRo.grow g16
        replace O1 := O1.grow g16
        replace G := G.grow g16
        replace GL9 := GL9.grow g16
        replace GL15 := GL15.grow g16
        replace B1 := B1.grow g16
        replace B11 := B11.grow g16
        have zg16 := g16.size
        refine S_bs1 (cs := [_]) Try.underlying23 zr3 sz3 rfl rfl rfl ?_
        intro b17 w17 fb17 g17 B17
        have lb17 := B17.lt
        replace hA := hA.grow g17
        replace hB := hB.grow g17
        replace cc2 := cc2.grow g17
        replace hE2 := hE2.grow g17
        replace hRo := hRo.grow g17
        replace O1 := O1.grow g17
        replace G := G.grow g17
        replace GL9 := GL9.grow g17
        replace GL15 := GL15.grow g17
        replace B1 := B1.grow g17
        replace B11 := B11.grow g17
        have zg17 := g17.size
        refine S_app Try.underlying23 zr3 sz3 by3 rfl rfl O1 rfl (Src.blk B17) (by simp [Value.oneCell']) (by omega) (Pr' := fun i => (i = b2 ∨ wz ≤ i) ∧ i ≠ b11) (fun i hi => hi) (by omega) ?_
        intro A18 cap18 w18 X18 m18
        replace O1 := X18
        rw [ints_app] at O1
        clear X18
        replace G := G.abv m18
        replace GL9 := GL9.trn m18
        replace GL15 := GL15.trn m18
        replace hA := hA0.grow G
        replace hB := hB0.grow G
        replace cc2 := cc20.grow G
        replace hE2 := hE20.grow G
        replace hRo := hRo.md m18
        replace B1 := B1.md m18
        replace B11 := B11.md m18
        have zm18 := m18.size
        refine S_val (Y_assign rfl) ?_
        refine S_nl rfl rfl ?_
        refine ib_n ?_
        refine th_n (hK22 _ _ ?_)
        clear hK22 K22
        refine Sb 73 rfl ?_  -- 16
        refine S_val (Y_move rfl) ?_
        refine S_val (Y_inc rfl rfl (by omega)) ?_
        refine S_val (Y_assign rfl) ?_
        refine S_nl rfl rfl ?_
        refine th_n ?_
        go_roundw  -- e2 of L3
        case rel =>
         refine ⟨?_, GL15⟩
         exact ⟨j + 1, _, _, _, rfl, rfl, by omega, by omega, by rw [htj, List.map_append, ← List.append_assoc]; exact O1⟩
        case measure =>
         exact dec_nat (by omega)
       · -- c4F
        replace hb4 := nb_tf hb4
        refine wp_exit ?_
        refine th_x ?_
        try clear GL15
        refine th_x ?_
        refine ib_e ?_
        refine ib_n ?_
        refine th_n (hK16 _ _ ?_)
        clear hK20 K20 hK16 K16
        refine Sb 73 rfl ?_  -- 11
        refine S_val (Y_move rfl) ?_
        refine S_val (Y_inc rfl rfl (by omega)) ?_
        refine S_val (Y_assign rfl) ?_
        refine S_nl rfl rfl ?_
        refine th_n ?_
        go_roundw  -- e3 of L2
        case rel =>
         refine ⟨?_, GL9⟩
         rw [List.take_of_length_le (by omega), ← hvs] at O1
         exact ⟨k + 1, _, _, _, rfl, rfl, by omega, by rw [hvs, List.length_append, List.length_append, List.length_map]; simp; omega, O1.weak (fun i hi => hi.1)⟩
        case measure =>
         exact dec_nat (by omega)
     · -- c3F
      replace hb3 := nb_tf hb3
      refine wp_exit ?_
      refine th_x ?_
      try clear GL9
      refine th_x ?_
      refine ib_e ?_
      refine th_n (hK12 _ _ ?_)
      clear hK14 K14 hK12 K12
      refine wp_seq_k fun K23 hK23 => ?_
      refine Sb 73 rfl ?_  -- 18
      refine S_val (Y_move rfl) ?_
      refine S_val (Y_assign rfl) ?_
      refine S_nl rfl rfl ?_
      refine th_n (hK23 _ _ ?_)
      clear hK23 K23
      refine wp_ret ?_
      refine ret_r1 rfl rfl ?_  -- r2
      rw [viewK_all (by omega)] at hq1 O1
      exact ⟨_, _, _, rfl, by rw [viewV_t hb1]; exact hq1, by rw [viewV_t hb1]; exact O1.weak (fun i hi => by omega), G⟩
set_option maxHeartbeats 400000 in
set_option maxRecDepth 20000 in
theorem impl_SameView_c (P1 P2 : Nat → Prop) (A B A2 B2 : Option Addr) (x y : LH) (c d c2 d2 : Nat) (w : World) (hA : RC P1 w A x.cells) (hB : R1 P1 w B (ints x.roots)) (hA2 : RC P2 w A2 y.cells) (hB2 : R1 P2 w B2 (ints y.roots)) (hz : hsize x ≤ 1048576) (hz2 : hsize y ≤ 1048576) :
    Calls Try.prog 37 #[.agg #[.slice A x.cells.length c, .slice B x.roots.length d], .agg #[.slice A2 y.cells.length c2, .slice B2 y.roots.length d2]] w (Ret fun v w' => v = .bool (sameV x y) ∧ Grow w w') := by
 have hvx := viewV_len x
 have hvy := viewV_len y
 refine enter Try.func37 rfl Try.ntmps37 (L := [_,_,_,_,_,_,_,_,_,_,_,_,_,_,_,_,_,_]) rfl ?_
 have G := Mod.refl No w
 have hA0 := hA
 have hB0 := hB
 have hA20 := hA2
 have hB20 := hB2
 refine wp_seq_k fun K1 hK1 => ?_
 refine Sb 18 rfl ?_  -- 0
 refine S_box (cs := [_, _]) rfl rfl ?_
 intro b1 w1 fb1 g1 B1
 have lb1 := B1.lt
 replace hA := hA.grow g1
 replace hB := hB.grow g1
 replace hA2 := hA2.grow g1
 replace hB2 := hB2.grow g1
 replace G := G.grow g1
 have zg1 := g1.size
 refine S_box (cs := [_, _]) rfl rfl ?_
 intro b2 w2 fb2 g2 B2
 have lb2 := B2.lt
 replace hA := hA.grow g2
 replace hB := hB.grow g2
 replace hA2 := hA2.grow g2
 replace hB2 := hB2.grow g2
 replace G := G.grow g2
 replace B1 := B1.grow g2
 have zg2 := g2.size
 refine S_val (Y_assign rfl) ?_
 refine S_nl rfl rfl ?_
 refine th_n (hK1 _ _ ?_)
 clear hK1 K1
 refine wp_seq_k fun K2 hK2 => ?_
 refine D_start 14 18 (fun w => Mod (No) w) follows rfl rfl ?_  -- d1 r1
 intro w3 g3
 replace hA := hA.grow g3
 replace hB := hB.grow g3
 replace hA2 := hA2.grow g3
 replace hB2 := hB2.grow g3
 replace G := G.grow g3
 replace B1 := B1.grow g3
 replace B2 := B2.grow g3
 have zg3 := g3.size
 have GS3 := Mod.refl (No) w3
 have B1d3 := B1
 have B2d3 := B2
 refine Dq (i := 0) rfl GS3 (fun _ hs => Y_loadS Try.underlying32 rfl sz32 rfl (by first | exact hs.cells0 (B1.row (by rfl)))) ?_
 refine D_1 (i := 1) (by kernel_rfl) ?_
 refine E_call rfl rfl en41 (impl_HeapValid_c _ _ _ _ _ _ _ (by assumption) (by assumption) (by omega)) ?_  -- k1 impl.HeapValid
 rintro v4 w4 ⟨rfl, g4⟩
 replace hA := hA.grow g4
 replace hB := hB.grow g4
 replace hA2 := hA2.grow g4
 replace hB2 := hB2.grow g4
 replace G := G.grow g4
 replace GS3 := GS3.grow g4
 replace B1 := B1.grow g4
 replace B2 := B2.grow g4
 have zg4 := g4.size
 refine ⟨GS3, ?_⟩
 refine Dq (i := 2) rfl GS3 (fun _ _ => Y_move rfl) ?_
 refine D_g 7 rfl (fun hb1 => ?_) (fun hb1 => ?_)  -- g1
 · -- g1T
  first | with_reducible (replace hb1 := nb_nt hb1) | with_reducible (replace hb1 := nb_tt hb1) | with_reducible (replace hb1 := nb_bt hb1) | skip
  refine Dqon (i := 3) rfl rfl rfl GS3 (fun _ hs => Y_loadS Try.underlying32 rfl sz32 rfl (by first | exact hs.cells0 (B2.row (by rfl)) | exact hs.cells0 (B2d3.row (by rfl)))) ?_
  refine D_1 (i := 4) (by kernel_rfl) ?_
  refine E_calln rfl rfl rfl rfl en41 (impl_HeapValid_c _ _ _ _ _ _ _ (by assumption) (by assumption) (by omega)) ?_  -- k2 impl.HeapValid
  rintro v5 w5 ⟨rfl, g5⟩
  replace hA := hA.grow g5
  replace hB := hB.grow g5
  replace hA2 := hA2.grow g5
  replace hB2 := hB2.grow g5
  replace G := G.grow g5
  replace GS3 := GS3.grow g5
  replace B1 := B1.grow g5
  replace B2 := B2.grow g5
  have zg5 := g5.size
  refine ⟨GS3, ?_⟩
  refine Dq (i := 5) rfl GS3 (fun _ _ => Y_pickT rfl rfl) ?_
  refine Dq (i := 6) rfl GS3 (fun _ _ => Y_move rfl) ?_
  refine D_g 11 rfl (fun hb2 => ?_) (fun hb2 => ?_)  -- g2
  · -- g2T
   first | with_reducible (replace hb2 := nb_nt hb2) | with_reducible (replace hb2 := nb_tt hb2) | with_reducible (replace hb2 := nb_bt hb2) | skip
   refine Dqon (i := 7) rfl rfl rfl GS3 (fun _ hs => Y_loadS Try.underlying32 rfl sz32 rfl (by first | exact hs.cells0 (B1.row (by rfl)) | exact hs.cells0 (B1d3.row (by rfl)))) ?_
   refine Dqon (i := 9) rfl rfl rfl GS3 (fun _ hs => Y_loadS Try.underlying32 rfl sz32 rfl (by first | exact hs.cells0 (B2.row (by rfl)) | exact hs.cells0 (B2d3.row (by rfl)))) ?_
   refine D_1 (i := 8) (by kernel_rfl) ?_
   refine E_calln rfl rfl rfl rfl en30 (impl_ViewOf_c _ _ _ _ _ _ _ (by assumption) (by assumption) (by omega)) ?_  -- k3 impl.ViewOf
   rintro v6 w6 ⟨A6, q6, cap6, rfl, hq6, O6, g6⟩
   replace hA := hA.grow g6
   replace hB := hB.grow g6
   replace hA2 := hA2.grow g6
   replace hB2 := hB2.grow g6
   replace G := G.grow g6
   replace GS3 := GS3.grow g6
   replace B1 := B1.grow g6
   replace B2 := B2.grow g6
   have zg6 := g6.size
   subst hq6
   replace O6 := O6.lt
   have hRx := O6.r1
   refine ⟨GS3, ?_⟩
   refine D_1 (i := 10) (by kernel_rfl) ?_
   refine E_calln rfl rfl rfl rfl en30 (impl_ViewOf_c _ _ _ _ _ _ _ (by assumption) (by assumption) (by omega)) ?_  -- k4 impl.ViewOf
   rintro v7 w7 ⟨A7, q7, cap7, rfl, hq7, O7, g7⟩
   replace hA := hA.grow g7
   replace hB := hB.grow g7
   replace hA2 := hA2.grow g7
   replace hB2 := hB2.grow g7
   replace hRx := hRx.grow g7
   replace G := G.grow g7
   replace GS3 := GS3.grow g7
   replace B1 := B1.grow g7
   replace B2 := B2.grow g7
   have zg7 := g7.size
   subst hq7
   replace O7 := O7.lt
   have hRy := O7.r1
   refine ⟨GS3, ?_⟩
   refine D_1 (i := 11) (by kernel_rfl) ?_
   refine E_calln rfl rfl rfl rfl en75 (impl_sameInts_c _ _ _ _ _ _ _ _ _ hRx hRy (by omega)) ?_  -- k5 impl.sameInts
   rintro v8 w8 ⟨rfl, g8⟩
   replace hA := hA.grow g8
   replace hB := hB.grow g8
   replace hA2 := hA2.grow g8
   replace hB2 := hB2.grow g8
   replace hRx := hRx.grow g8
   replace hRy := hRy.grow g8
   replace G := G.grow g8
   replace GS3 := GS3.grow g8
   replace B1 := B1.grow g8
   replace B2 := B2.grow g8
   have zg8 := g8.size
   refine ⟨GS3, ?_⟩
   refine Dq (i := 12) rfl GS3 (fun _ _ => Y_pickT rfl rfl) ?_
   refine Dq (i := 13) rfl GS3 (fun _ _ => Y_assign rfl) ?_
   refine D_en (by kernel_rfl) rfl rfl ?_
   refine th_n (hK2 _ _ ?_)
   clear hK2 K2
   refine wp_ret ?_
   refine ret_r1 rfl rfl ?_  -- r1
   exact ⟨by rw [sameV_t hb1 hb2], G⟩
  · -- g2F
   first | with_reducible (replace hb2 := nb_nf hb2) | with_reducible (replace hb2 := nb_tf hb2) | with_reducible (replace hb2 := nb_bf hb2) | skip
   refine Dqoff (i := 7) rfl rfl rfl GS3 ?_
   refine Dqoff (i := 8) rfl rfl rfl GS3 ?_
   refine Dqoff (i := 9) rfl rfl rfl GS3 ?_
   refine Dqoff (i := 10) rfl rfl rfl GS3 ?_
   refine Dqoff (i := 11) rfl rfl rfl GS3 ?_
   refine Dq (i := 12) rfl GS3 (fun _ _ => Y_pickF rfl rfl) ?_
   refine Dq (i := 13) rfl GS3 (fun _ _ => Y_assign rfl) ?_
   refine D_en (by kernel_rfl) rfl rfl ?_
   refine th_n (hK2 _ _ ?_)
   clear hK2 K2
   refine wp_ret ?_
   refine ret_r1 rfl rfl ?_  -- r2
   exact ⟨by rw [sameV_f2 hb2], G⟩
 · -- g1F
  first | with_reducible (replace hb1 := nb_nf hb1) | with_reducible (replace hb1 := nb_tf hb1) | with_reducible (replace hb1 := nb_bf hb1) | skip
  refine Dqoff (i := 3) rfl rfl rfl GS3 ?_
  refine Dqoff (i := 4) rfl rfl rfl GS3 ?_
  refine Dq (i := 5) rfl GS3 (fun _ _ => Y_pickF rfl rfl) ?_
  refine Dq (i := 6) rfl GS3 (fun _ _ => Y_move rfl) ?_
  refine Dqoff (i := 7) rfl rfl rfl GS3 ?_
  refine Dqoff (i := 8) rfl rfl rfl GS3 ?_
  refine Dqoff (i := 9) rfl rfl rfl GS3 ?_
  refine Dqoff (i := 10) rfl rfl rfl GS3 ?_
  refine Dqoff (i := 11) rfl rfl rfl GS3 ?_
  refine Dq (i := 12) rfl GS3 (fun _ _ => Y_pickF rfl rfl) ?_
  refine Dq (i := 13) rfl GS3 (fun _ _ => Y_assign rfl) ?_
  refine D_en (by kernel_rfl) rfl rfl ?_
  refine th_n (hK2 _ _ ?_)
  clear hK2 K2
  refine wp_ret ?_
  refine ret_r1 rfl rfl ?_  -- r3
  exact ⟨by rw [sameV_f1 hb1], G⟩
end
/-! WalkY -/
section
open Go Go.RowKit
attribute [local irreducible] wpList wpAnyH Code.wp dOp
set_option maxHeartbeats 400000 in
set_option maxRecDepth 20000 in
theorem impl_clone_int__c (Pr : Nat → Prop) (A : Option Addr) (xs : List Int) (c : Nat) (w : World) (hA : R1 Pr w A (ints xs)) (hx : xs.length ≤ 1048576) :
    Calls Try.prog 74 #[.slice A xs.length c] w (Ret fun v w' => ∃ A q cap, v = .slice A q cap ∧ q = xs.length ∧ OW (fun i => w.heap.size ≤ i) w' 3 1 A q cap (ints xs) ∧ Grow w w') := by
 refine enter Try.func74 rfl Try.ntmps74 (L := [_,_,_,_,_,_,_,_]) rfl ?_
 have G := Mod.refl No w
 have hA0 := hA
 refine wp_seq_k fun K1 hK1 => ?_
 refine Sb 8 rfl ?_  -- 0
 refine S_val (Y_assign rfl) ?_
 refine S_nl rfl rfl ?_
 refine th_n (hK1 _ _ ?_)
 clear hK1 K1
 refine wp_seq_k fun K2 hK2 => ?_
 refine Sb 8 rfl ?_  -- 1
 refine S_val (Y_move rfl) ?_
 refine S_val (Y_len Try.underlying23 rfl) ?_
 refine S_make (n := xs.length) (l := 0) (z := [.int .i64 0]) Try.underlying23 zr3 sz3 by3 rfl rfl (by omega) (by omega) (by omega) ?_
 intro b1 w1 fb1 g1 B1
 have lb1 := B1.lt
 replace hA := hA.grow g1
 replace G := G.grow g1
 have zg1 := g1.size
 have O1 := OW.room (Pr := fun i => w.heap.size ≤ i) (s := 1) B1 rfl (by unfold maxLen; omega) (by omega)
 refine S_val (Y_move rfl) ?_
 refine S_app (news := ints xs) Try.underlying23 zr3 sz3 by3 rfl rfl O1 (by rw [ints_len]; omega) (by have hsr := Src.r1 hA; rw [ints_len] at hsr; exact hsr) ints_one (by omega) (Pr' := fun i => w.heap.size ≤ i) (fun i hi => hi) (by omega) ?_
 intro A2 cap2 w2 X2 m2
 replace O1 := X2
 rw [List.nil_append] at O1
 clear X2
 replace G := G.abv m2
 replace hA := hA0.grow G
 have zm2 := m2.size
 refine S_val (Y_assign rfl) ?_
 refine S_nl rfl rfl ?_
 refine th_n (hK2 _ _ ?_)
 clear hK2 K2
 refine wp_ret ?_
 refine ret_r1 rfl rfl ?_  -- r1
 exact ⟨_, _, _, rfl, by omega, O1, G⟩
end
/-! WalkCp -/
section
open Go Go.RowKit
attribute [local irreducible] wpList wpAnyH Code.wp dOp
set_option maxHeartbeats 400000 in
set_option maxRecDepth 20000 in
theorem impl_copyHeap_c (Pr : Nat → Prop) (A B : Option Addr) (h : LH) (c d : Nat) (w : World) (hA : RC Pr w A h.cells) (hB : R1 Pr w B (ints h.roots)) (hz : hsize h ≤ 1048576) :
    Calls Try.prog 82 #[.agg #[.slice A h.cells.length c, .slice B h.roots.length d]] w (Ret fun v w' => ∃ A1 B1 n1 c1 n2 c2 rs, v = .agg #[.slice A1 n1 c1, .slice B1 n2 c2] ∧ n1 = (h).cells.length ∧ n2 = (h).roots.length ∧ OH (fun i => w.heap.size ≤ i) w' 63 3 A1 B1 (h) rs ∧ Grow w w') := by
 have hz1 := hsize_cells h
 have hz2 := hsize_roots h
 have hne : (63 : TypeId) ≠ 3 := by decide
 refine enter Try.func82 rfl Try.ntmps82 (L := [_,_,_,_,_,_,_,_,_,_,_,_,_,_,_,_,_,_,_,_,_,_,_,_,_,_,_,_,_,_,_,_,_,_,_,_,_]) rfl ?_
 have G := Mod.refl No w
 have hA0 := hA
 have hB0 := hB
 refine wp_seq_k fun K1 hK1 => ?_
 refine Sb 37 rfl ?_  -- 0
 refine S_box (cs := [_, _]) rfl rfl ?_
 intro b1 w1 fb1 g1 B1
 have lb1 := B1.lt
 replace hA := hA.grow g1
 replace hB := hB.grow g1
 replace G := G.grow g1
 have zg1 := g1.size
 refine S_alloc (cs := [_, _]) zr32 rfl ?_
 intro b2 w2 fb2 g2 B2
 have lb2 := B2.lt
 replace hA := hA.grow g2
 replace hB := hB.grow g2
 replace G := G.grow g2
 replace B1 := B1.grow g2
 have zg2 := g2.size
 refine S_nl rfl rfl ?_
 refine th_n (hK1 _ _ ?_)
 clear hK1 K1
 refine wp_seq_k fun K2 hK2 => ?_
 refine D_cut (fun a' w' => ∃ (b3 bm capR : Nat) (AR : Option Addr) (L : List Value), a' = ⟨L.toArray, []⟩ ∧ L.length = 37 ∧ L[0]? = some (.agg #[.slice A h.cells.length c, .slice B h.roots.length d]) ∧ L[1]? = some (.pointer (some ⟨b1, 0, none⟩)) ∧ L[2]? = some (.pointer (some ⟨b2, 0, none⟩)) ∧ L[3]? = some (.pointer (some ⟨b3, 0, none⟩)) ∧ Mod (No) w2 w' ∧ (Blk w' b3 32 [.slice (some ⟨bm, 0, none⟩) 0 (h.cells.length + 1), .slice AR h.roots.length capR].toArray) ∧ (Blk w' bm 63 (zeros [.bool false, .int .i64 0, .slice none 0 0] (h.cells.length + 1)).toArray) ∧ (OW (fun i => w2.heap.size ≤ i ∧ i ≠ bm ∧ i ≠ b3 ∧ i < w'.heap.size) w' 3 1 AR h.roots.length capR (ints h.roots)) ∧ (w2.heap.size ≤ b3 ∧ w2.heap.size ≤ bm ∧ bm ≠ b3 ∧ bm < w'.heap.size)) ?_ ?_
 · -- cut
  refine D_start 11 37 (fun w => Mod (No) w) follows rfl rfl ?_  -- d1 r1
  intro w3 g3
  replace hA := hA.grow g3
  replace hB := hB.grow g3
  replace G := G.grow g3
  replace B1 := B1.grow g3
  replace B2 := B2.grow g3
  have zg3 := g3.size
  have GS3 := Mod.refl (No) w3
  have B1d3 := B1
  refine Dq (i := 0) rfl GS3 (fun _ _ => Y_field Try.underlying32 rfl fz32_0 (by decide) rfl) ?_
  refine Dq (i := 1) rfl GS3 (fun _ hs => Y_load Try.underlying30 rfl rfl (hs.cell0 (B1.at (by rfl)))) ?_
  refine Dq (i := 2) rfl GS3 (fun _ _ => Y_len Try.underlying30 rfl) ?_
  refine Dq (i := 3) rfl GS3 (fun _ _ => Y_add (c := ((h.cells.length + 1 : Nat) : Int)) rfl rfl rfl (by omega) (by omega)) ?_
  refine Dq (i := 5) rfl GS3 (fun _ _ => Y_field Try.underlying32 rfl fz32_1 (by decide) rfl) ?_
  refine Dq (i := 6) rfl GS3 (fun _ hs => Y_load Try.underlying23 rfl rfl (hs.cell0 (B1.at (by rfl)))) ?_
  refine D_3 (i := 4) (j := 7) (k := 9) (by kernel_rfl) ?_ ?_ ?_
  · -- operation 4 comes up
   refine E_make (i := 4) (n := h.cells.length + 1) (l := 0) (z := [.bool false, .int .i64 0, .slice none 0 0]) rfl Try.underlying30 zr63 sz63 by63 rfl rfl (by omega) (by omega) (by omega) ?_
   intro bm w5 fbm g5 BM
   have lbm := BM.lt
   refine ⟨GS3.grow g5, ?_⟩
   replace hA := hA.grow g5
   replace hB := hB.grow g5
   replace G := G.grow g5
   replace GS3 := GS3.grow g5
   replace B1 := B1.grow g5
   replace B2 := B2.grow g5
   have zg5 := g5.size
   refine D_2 (i := 7) (j := 9) (by kernel_rfl) ?_ ?_
   · -- operation 7 comes up
    refine E_call rfl rfl en74 (impl_clone_int__c _ _ _ _ _ (by assumption) (by omega)) ?_  -- k1 impl.clone[int]
    rintro v6 w6 ⟨A6, q6, cap6, rfl, hq6, O6, g6⟩
    replace hA := hA.grow g6
    replace hB := hB.grow g6
    replace BM := BM.grow g6
    replace G := G.grow g6
    replace GS3 := GS3.grow g6
    replace B1 := B1.grow g6
    replace B2 := B2.grow g6
    have zg6 := g6.size
    subst hq6
    obtain ⟨AR, rfl⟩ : ∃ x, x = A6 := ⟨_, rfl⟩
    obtain ⟨capR, rfl⟩ : ∃ x, x = cap6 := ⟨_, rfl⟩
    have OX := O6.lt
    refine ⟨GS3, ?_⟩
    refine Dq (i := 8) rfl GS3 (fun _ _ => Y_build (cs := [_, _]) zr32 pc32 rfl rfl) ?_
    refine D_1 (i := 9) (by kernel_rfl) ?_
    refine E_alloc (cs := [_, _]) rfl zr32 rfl (fun b7 w7 fb7 g7 B7 => ⟨GS3.grow g7, ?_⟩)
    have lb7 := B7.lt
    replace hA := hA.grow g7
    replace hB := hB.grow g7
    replace BM := BM.grow g7
    replace OX := OX.grow g7
    replace G := G.grow g7
    replace GS3 := GS3.grow g7
    replace B1 := B1.grow g7
    replace B2 := B2.grow g7
    have zg7 := g7.size
    refine D_1 (i := 10) (by kernel_rfl) ?_
    refine E_stM (pre := []) (old := [_, _]) (post := []) (vs := [_, _]) (i := 10) rfl sz32 rfl rfl rfl (by first | rfl | assumption) B7 rfl rfl ?_
    intro w8 m8 X8
    replace B7 := Blk.eq (ys := [_, _]) X8 rfl
    clear X8
    replace G := G.abv m8
    replace GS3 := GS3.abv m8
    replace hA := hA0.grow G
    replace hB := hB0.grow G
    replace BM := BM.md m8
    replace OX := OX.md m8
    replace B1 := B1.md m8
    replace B2 := B2.md m8
    have zm8 := m8.size
    refine ⟨GS3, ?_⟩
    refine D_en (by kernel_rfl) rfl rfl ?_
    exact ⟨rfl, _, _, _, _, _, rfl, rfl, rfl, rfl, rfl, rfl, g3.grow GS3, B7, BM, OX.weak (fun i hi => by omega), ⟨by omega, by omega, by omega, by omega⟩⟩
   · -- operation 9 comes up
    refine E_alloc (cs := [_, _]) rfl zr32 rfl (fun b9 w9 fb9 g9 B9 => ⟨GS3.grow g9, ?_⟩)
    have lb9 := B9.lt
    replace hA := hA.grow g9
    replace hB := hB.grow g9
    replace BM := BM.grow g9
    replace G := G.grow g9
    replace GS3 := GS3.grow g9
    replace B1 := B1.grow g9
    replace B2 := B2.grow g9
    have zg9 := g9.size
    refine D_1 (i := 7) (by kernel_rfl) ?_
    refine E_call rfl rfl en74 (impl_clone_int__c _ _ _ _ _ (by assumption) (by omega)) ?_  -- k2 impl.clone[int]
    rintro v10 w10 ⟨A10, q10, cap10, rfl, hq10, O10, g10⟩
    replace hA := hA.grow g10
    replace hB := hB.grow g10
    replace BM := BM.grow g10
    replace G := G.grow g10
    replace GS3 := GS3.grow g10
    replace B1 := B1.grow g10
    replace B2 := B2.grow g10
    replace B9 := B9.grow g10
    have zg10 := g10.size
    subst hq10
    obtain ⟨AR, rfl⟩ : ∃ x, x = A10 := ⟨_, rfl⟩
    obtain ⟨capR, rfl⟩ : ∃ x, x = cap10 := ⟨_, rfl⟩
    have OX := O10.lt
    refine ⟨GS3, ?_⟩
    refine Dq (i := 8) rfl GS3 (fun _ _ => Y_build (cs := [_, _]) zr32 pc32 rfl rfl) ?_
    refine D_1 (i := 10) (by kernel_rfl) ?_
    refine E_stM (pre := []) (old := [_, _]) (post := []) (vs := [_, _]) (i := 10) rfl sz32 rfl rfl rfl (by first | rfl | assumption) B9 rfl rfl ?_
    intro w11 m11 X11
    replace B9 := Blk.eq (ys := [_, _]) X11 rfl
    clear X11
    replace G := G.abv m11
    replace GS3 := GS3.abv m11
    replace hA := hA0.grow G
    replace hB := hB0.grow G
    replace BM := BM.md m11
    replace OX := OX.md m11
    replace B1 := B1.md m11
    replace B2 := B2.md m11
    have zm11 := m11.size
    refine ⟨GS3, ?_⟩
    refine D_en (by kernel_rfl) rfl rfl ?_
    exact ⟨rfl, _, _, _, _, _, rfl, rfl, rfl, rfl, rfl, rfl, g3.grow GS3, B9, BM, OX.weak (fun i hi => by omega), ⟨by omega, by omega, by omega, by omega⟩⟩
  · -- operation 7 comes up
   refine E_call rfl rfl en74 (impl_clone_int__c _ _ _ _ _ (by assumption) (by omega)) ?_  -- k3 impl.clone[int]
   rintro v12 w12 ⟨A12, q12, cap12, rfl, hq12, O12, g12⟩
   replace hA := hA.grow g12
   replace hB := hB.grow g12
   replace G := G.grow g12
   replace GS3 := GS3.grow g12
   replace B1 := B1.grow g12
   replace B2 := B2.grow g12
   have zg12 := g12.size
   subst hq12
   obtain ⟨AR, rfl⟩ : ∃ x, x = A12 := ⟨_, rfl⟩
   obtain ⟨capR, rfl⟩ : ∃ x, x = cap12 := ⟨_, rfl⟩
   have OX := O12.lt
   refine ⟨GS3, ?_⟩
   refine D_2 (i := 4) (j := 9) (by kernel_rfl) ?_ ?_
   · -- operation 4 comes up
    refine E_make (i := 4) (n := h.cells.length + 1) (l := 0) (z := [.bool false, .int .i64 0, .slice none 0 0]) rfl Try.underlying30 zr63 sz63 by63 rfl rfl (by omega) (by omega) (by omega) ?_
    intro bm w13 fbm g13 BM
    have lbm := BM.lt
    refine ⟨GS3.grow g13, ?_⟩
    replace hA := hA.grow g13
    replace hB := hB.grow g13
    replace OX := OX.grow g13
    replace G := G.grow g13
    replace GS3 := GS3.grow g13
    replace B1 := B1.grow g13
    replace B2 := B2.grow g13
    have zg13 := g13.size
    refine Dq (i := 8) rfl GS3 (fun _ _ => Y_build (cs := [_, _]) zr32 pc32 rfl rfl) ?_
    refine D_1 (i := 9) (by kernel_rfl) ?_
    refine E_alloc (cs := [_, _]) rfl zr32 rfl (fun b14 w14 fb14 g14 B14 => ⟨GS3.grow g14, ?_⟩)
    have lb14 := B14.lt
    replace hA := hA.grow g14
    replace hB := hB.grow g14
    replace OX := OX.grow g14
    replace BM := BM.grow g14
    replace G := G.grow g14
    replace GS3 := GS3.grow g14
    replace B1 := B1.grow g14
    replace B2 := B2.grow g14
    have zg14 := g14.size
    refine D_1 (i := 10) (by kernel_rfl) ?_
    refine E_stM (pre := []) (old := [_, _]) (post := []) (vs := [_, _]) (i := 10) rfl sz32 rfl rfl rfl (by first | rfl | assumption) B14 rfl rfl ?_
    intro w15 m15 X15
    replace B14 := Blk.eq (ys := [_, _]) X15 rfl
    clear X15
    replace G := G.abv m15
    replace GS3 := GS3.abv m15
    replace hA := hA0.grow G
    replace hB := hB0.grow G
    replace OX := OX.md m15
    replace BM := BM.md m15
    replace B1 := B1.md m15
    replace B2 := B2.md m15
    have zm15 := m15.size
    refine ⟨GS3, ?_⟩
    refine D_en (by kernel_rfl) rfl rfl ?_
    exact ⟨rfl, _, _, _, _, _, rfl, rfl, rfl, rfl, rfl, rfl, g3.grow GS3, B14, BM, OX.weak (fun i hi => by omega), ⟨by omega, by omega, by omega, by omega⟩⟩
   · -- operation 9 comes up
    refine E_alloc (cs := [_, _]) rfl zr32 rfl (fun b16 w16 fb16 g16 B16 => ⟨GS3.grow g16, ?_⟩)
    have lb16 := B16.lt
    replace hA := hA.grow g16
    replace hB := hB.grow g16
    replace OX := OX.grow g16
    replace G := G.grow g16
    replace GS3 := GS3.grow g16
    replace B1 := B1.grow g16
    replace B2 := B2.grow g16
    have zg16 := g16.size
    refine D_1 (i := 4) (by kernel_rfl) ?_
    refine E_make (i := 4) (n := h.cells.length + 1) (l := 0) (z := [.bool false, .int .i64 0, .slice none 0 0]) rfl Try.underlying30 zr63 sz63 by63 rfl rfl (by omega) (by omega) (by omega) ?_
    intro bm w17 fbm g17 BM
    have lbm := BM.lt
    refine ⟨GS3.grow g17, ?_⟩
    replace hA := hA.grow g17
    replace hB := hB.grow g17
    replace OX := OX.grow g17
    replace G := G.grow g17
    replace GS3 := GS3.grow g17
    replace B1 := B1.grow g17
    replace B2 := B2.grow g17
    replace B16 := B16.grow g17
    have zg17 := g17.size
    refine Dq (i := 8) rfl GS3 (fun _ _ => Y_build (cs := [_, _]) zr32 pc32 rfl rfl) ?_
    refine D_1 (i := 10) (by kernel_rfl) ?_
    refine E_stM (pre := []) (old := [_, _]) (post := []) (vs := [_, _]) (i := 10) rfl sz32 rfl rfl rfl (by first | rfl | assumption) B16 rfl rfl ?_
    intro w18 m18 X18
    replace B16 := Blk.eq (ys := [_, _]) X18 rfl
    clear X18
    replace G := G.abv m18
    replace GS3 := GS3.abv m18
    replace hA := hA0.grow G
    replace hB := hB0.grow G
    replace OX := OX.md m18
    replace BM := BM.md m18
    replace B1 := B1.md m18
    replace B2 := B2.md m18
    have zm18 := m18.size
    refine ⟨GS3, ?_⟩
    refine D_en (by kernel_rfl) rfl rfl ?_
    exact ⟨rfl, _, _, _, _, _, rfl, rfl, rfl, rfl, rfl, rfl, g3.grow GS3, B16, BM, OX.weak (fun i hi => by omega), ⟨by omega, by omega, by omega, by omega⟩⟩
  · -- operation 9 comes up
   refine E_alloc (cs := [_, _]) rfl zr32 rfl (fun b19 w19 fb19 g19 B19 => ⟨GS3.grow g19, ?_⟩)
   have lb19 := B19.lt
   replace hA := hA.grow g19
   replace hB := hB.grow g19
   replace G := G.grow g19
   replace GS3 := GS3.grow g19
   replace B1 := B1.grow g19
   replace B2 := B2.grow g19
   have zg19 := g19.size
   refine D_2 (i := 4) (j := 7) (by kernel_rfl) ?_ ?_
   · -- operation 4 comes up
    refine E_make (i := 4) (n := h.cells.length + 1) (l := 0) (z := [.bool false, .int .i64 0, .slice none 0 0]) rfl Try.underlying30 zr63 sz63 by63 rfl rfl (by omega) (by omega) (by omega) ?_
    intro bm w20 fbm g20 BM
    have lbm := BM.lt
    refine ⟨GS3.grow g20, ?_⟩
    replace hA := hA.grow g20
    replace hB := hB.grow g20
    replace G := G.grow g20
    replace GS3 := GS3.grow g20
    replace B1 := B1.grow g20
    replace B2 := B2.grow g20
    replace B19 := B19.grow g20
    have zg20 := g20.size
    refine D_1 (i := 7) (by kernel_rfl) ?_
    refine E_call rfl rfl en74 (impl_clone_int__c _ _ _ _ _ (by assumption) (by omega)) ?_  -- k4 impl.clone[int]
    rintro v21 w21 ⟨A21, q21, cap21, rfl, hq21, O21, g21⟩
    replace hA := hA.grow g21
    replace hB := hB.grow g21
    replace BM := BM.grow g21
    replace G := G.grow g21
    replace GS3 := GS3.grow g21
    replace B1 := B1.grow g21
    replace B2 := B2.grow g21
    replace B19 := B19.grow g21
    have zg21 := g21.size
    subst hq21
    obtain ⟨AR, rfl⟩ : ∃ x, x = A21 := ⟨_, rfl⟩
    obtain ⟨capR, rfl⟩ : ∃ x, x = cap21 := ⟨_, rfl⟩
    have OX := O21.lt
    refine ⟨GS3, ?_⟩
    refine Dq (i := 8) rfl GS3 (fun _ _ => Y_build (cs := [_, _]) zr32 pc32 rfl rfl) ?_
    refine D_1 (i := 10) (by kernel_rfl) ?_
    refine E_stM (pre := []) (old := [_, _]) (post := []) (vs := [_, _]) (i := 10) rfl sz32 rfl rfl rfl (by first | rfl | assumption) B19 rfl rfl ?_
    intro w22 m22 X22
    replace B19 := Blk.eq (ys := [_, _]) X22 rfl
    clear X22
    replace G := G.abv m22
    replace GS3 := GS3.abv m22
    replace hA := hA0.grow G
    replace hB := hB0.grow G
    replace BM := BM.md m22
    replace OX := OX.md m22
    replace B1 := B1.md m22
    replace B2 := B2.md m22
    have zm22 := m22.size
    refine ⟨GS3, ?_⟩
    refine D_en (by kernel_rfl) rfl rfl ?_
    exact ⟨rfl, _, _, _, _, _, rfl, rfl, rfl, rfl, rfl, rfl, g3.grow GS3, B19, BM, OX.weak (fun i hi => by omega), ⟨by omega, by omega, by omega, by omega⟩⟩
   · -- operation 7 comes up
    refine E_call rfl rfl en74 (impl_clone_int__c _ _ _ _ _ (by assumption) (by omega)) ?_  -- k5 impl.clone[int]
    rintro v23 w23 ⟨A23, q23, cap23, rfl, hq23, O23, g23⟩
    replace hA := hA.grow g23
    replace hB := hB.grow g23
    replace G := G.grow g23
    replace GS3 := GS3.grow g23
    replace B1 := B1.grow g23
    replace B2 := B2.grow g23
    replace B19 := B19.grow g23
    have zg23 := g23.size
    subst hq23
    obtain ⟨AR, rfl⟩ : ∃ x, x = A23 := ⟨_, rfl⟩
    obtain ⟨capR, rfl⟩ : ∃ x, x = cap23 := ⟨_, rfl⟩
    have OX := O23.lt
    refine ⟨GS3, ?_⟩
    refine D_1 (i := 4) (by kernel_rfl) ?_
    refine E_make (i := 4) (n := h.cells.length + 1) (l := 0) (z := [.bool false, .int .i64 0, .slice none 0 0]) rfl Try.underlying30 zr63 sz63 by63 rfl rfl (by omega) (by omega) (by omega) ?_
    intro bm w24 fbm g24 BM
    have lbm := BM.lt
    refine ⟨GS3.grow g24, ?_⟩
    replace hA := hA.grow g24
    replace hB := hB.grow g24
    replace OX := OX.grow g24
    replace G := G.grow g24
    replace GS3 := GS3.grow g24
    replace B1 := B1.grow g24
    replace B2 := B2.grow g24
    replace B19 := B19.grow g24
    have zg24 := g24.size
    refine Dq (i := 8) rfl GS3 (fun _ _ => Y_build (cs := [_, _]) zr32 pc32 rfl rfl) ?_
    refine D_1 (i := 10) (by kernel_rfl) ?_
    refine E_stM (pre := []) (old := [_, _]) (post := []) (vs := [_, _]) (i := 10) rfl sz32 rfl rfl rfl (by first | rfl | assumption) B19 rfl rfl ?_
    intro w25 m25 X25
    replace B19 := Blk.eq (ys := [_, _]) X25 rfl
    clear X25
    replace G := G.abv m25
    replace GS3 := GS3.abv m25
    replace hA := hA0.grow G
    replace hB := hB0.grow G
    replace OX := OX.md m25
    replace BM := BM.md m25
    replace B1 := B1.md m25
    replace B2 := B2.md m25
    have zm25 := m25.size
    refine ⟨GS3, ?_⟩
    refine D_en (by kernel_rfl) rfl rfl ?_
    exact ⟨rfl, _, _, _, _, _, rfl, rfl, rfl, rfl, rfl, rfl, g3.grow GS3, B19, BM, OX.weak (fun i hi => by omega), ⟨by omega, by omega, by omega, by omega⟩⟩
 · -- behind the cut
  rintro a' w4 ⟨b3, bm, capR, AR, L, rfl, hL, hs0, hs1, hs2, hs3, gJ4, B3, BM, OX, hb39⟩
  obtain ⟨x, rfl⟩ : ∃ x : Nat → Value, L = [(.agg #[.slice A h.cells.length c, .slice B h.roots.length d]), (.pointer (some ⟨b1, 0, none⟩)), (.pointer (some ⟨b2, 0, none⟩)), (.pointer (some ⟨b3, 0, none⟩)), x 4, x 5, x 6, x 7, x 8, x 9, x 10, x 11, x 12, x 13, x 14, x 15, x 16, x 17, x 18, x 19, x 20, x 21, x 22, x 23, x 24, x 25, x 26, x 27, x 28, x 29, x 30, x 31, x 32, x 33, x 34, x 35, x 36] := ⟨fun i => L.getD i undef, (slots_eta L 37 hL).trans (by show [L.getD 0 undef, L.getD 1 undef, L.getD 2 undef, L.getD 3 undef, L.getD 4 undef, L.getD 5 undef, L.getD 6 undef, L.getD 7 undef, L.getD 8 undef, L.getD 9 undef, L.getD 10 undef, L.getD 11 undef, L.getD 12 undef, L.getD 13 undef, L.getD 14 undef, L.getD 15 undef, L.getD 16 undef, L.getD 17 undef, L.getD 18 undef, L.getD 19 undef, L.getD 20 undef, L.getD 21 undef, L.getD 22 undef, L.getD 23 undef, L.getD 24 undef, L.getD 25 undef, L.getD 26 undef, L.getD 27 undef, L.getD 28 undef, L.getD 29 undef, L.getD 30 undef, L.getD 31 undef, L.getD 32 undef, L.getD 33 undef, L.getD 34 undef, L.getD 35 undef, L.getD 36 undef] = _; rw [slot_d hs0, slot_d hs1, slot_d hs2, slot_d hs3])⟩
  clear hL hs0 hs1 hs2 hs3
  replace hA := hA.grow gJ4
  replace hB := hB.grow gJ4
  replace G := G.grow gJ4
  replace B1 := B1.grow gJ4
  replace B2 := B2.grow gJ4
  have zgJ4 := gJ4.size
  have lb3 := B3.lt
  obtain ⟨p1, p2, p3, p4⟩ := hb39
  refine th_n (hK2 _ _ ?_)
  clear hK2 K2
  refine wp_seq_k fun K3 hK3 => ?_
  refine wp_seq_k fun K4 hK4 => ?_
  refine Sb 37 rfl ?_  -- 2
  refine S_val (Y_field Try.underlying32 rfl fz32_0 (by decide) rfl) ?_
  refine S_val (Y_load Try.underlying30 rfl rfl (B1.at (by rfl))) ?_  -- l3
  refine S_val (Y_len Try.underlying30 rfl) ?_
  refine S_val (Y_move rfl) ?_
  refine S_nl rfl rfl ?_
  refine th_n (hK4 _ _ ?_)
  clear hK4 K4
  refine wp_block ?_
  obtain ⟨wz, hwz⟩ : ∃ x, x = w4.heap.size := ⟨_, rfl⟩
  have OC1 : OW (fun i => i = bm ∨ wz ≤ i) w4 63 3 (some ⟨bm, 0, none⟩) 0 (h.cells.length + 1) (flatC ([] : List LC) []) := OW.room BM rfl (by unfold maxLen; omega) (.inl rfl)
  have OR1 : ORs (fun i => wz ≤ i) w4 3 ([] : List LC) [] := ORs.nil _ _ _
  go_loopw [18] (fun u18 wr => (∃ (k q cap : Nat) (A1 : Option Addr) (rs : List (Option Addr × Nat)), u18 = .int .i64 k ∧ k ≤ h.cells.length ∧ q = k ∧ Blk wr b3 32 [.slice A1 q cap, .slice AR h.roots.length capR].toArray ∧ OW (fun i => i = bm ∨ wz ≤ i) wr 63 3 A1 q cap (flatC (h.cells.take k) rs) ∧ ORs (fun i => wz ≤ i) wr 3 (h.cells.take k) rs) ∧ Mod (fun i => i = b3 ∨ (i = bm ∨ wz ≤ i) ∨ wz ≤ i) w4 wr) (fun u18 wr => h.cells.length - (intOf u18).toNat)  -- L1
  case atStart =>
   refine ⟨?_, Mod.refl _ _⟩
   exact ⟨0, 0, _, _, [], rfl, by omega, rfl, B3, OC1, OR1⟩
  case round =>
   obtain ⟨w26, rfl⟩ : ∃ x : World, x = wr := ⟨_, rfl⟩
   obtain ⟨hrel, g26⟩ := hrel
   clear B3
   clear OC1
   clear OR1
   replace G := G.abv g26
   replace hA := hA0.grow G
   replace hB := hB0.grow G
   replace OX := OX.md g26
   replace B1 := B1.md g26
   replace B2 := B2.md g26
   have zg26 := g26.size
   obtain ⟨k, q1, cap1, A1, rs, rfl, hk, hq1, B3, OC1, OR1⟩ := hrel
   have hlk : (h.cells.take k).length = k := by simp; omega
   have GL26 := g26
   refine wp_seq_k fun K5 hK5 => ?_
   refine Sb 37 rfl ?_  -- 3
   refine S_val (Y_lss rfl rfl) ?_
   refine S_nl rfl rfl ?_
   refine th_n (hK5 _ _ ?_)
   clear hK5 K5
   refine wp_seq_k fun K6 hK6 => ?_
   refine S_if rfl (fun hb1 => ?_) (fun hb1 => ?_)  -- c1
   · -- c1T
    replace hb1 := nb_tt hb1
    have hk1 : k < h.cells.length := by omega
    obtain ⟨g2, o2, E2, d2, rfl, hp2, cc20, hE20⟩ := hA0.cell hk1
    have cc2 := cc20.grow G
    have hE2 := hE20.grow G
    have hr1 := hsize_refs h hk1
    replace OC1 := OC1.lt
    replace OR1 := OR1.lt
    refine wp_skip ?_
    refine th_n (hK6 _ _ ?_)
    clear hK6 K6
    refine wp_seq_k fun K7 hK7 => ?_
    refine wp_block ?_
    refine wp_seq_k fun K8 hK8 => ?_
    refine Sb 37 rfl ?_  -- 4
    refine S_val (Y_index Try.underlying30 sz63 rfl rfl (by first | assumption | omega)) ?_
    refine S_val (Y_loadS Try.underlying63 rfl sz63 rfl (by first | assumption | exact B1.row (by rfl) | exact B2.row (by rfl) | exact B3.row (by rfl))) ?_  -- l4
    refine S_alloc (cs := [_, _, _]) zr63 rfl ?_
    intro b27 w27 fb27 g27 B27
    have lb27 := B27.lt
    replace hA := hA.grow g27
    replace hB := hB.grow g27
    replace cc2 := cc2.grow g27
    replace hE2 := hE2.grow g27
    replace OX := OX.grow g27
    replace OC1 := OC1.grow g27
    replace OR1 := OR1.grow g27
    replace G := G.grow g27
    replace GL26 := GL26.grow g27
    replace B1 := B1.grow g27
    replace B2 := B2.grow g27
    replace B3 := B3.grow g27
    have zg27 := g27.size
    refine S_stM (pre := []) (old := [_, _, _]) (post := []) (vs := [_, _, _]) sz63 rfl rfl rfl (by first | rfl | assumption) B27 rfl rfl ?_
    intro w28 m28 X28
    replace B27 := Blk.eq (ys := [_, _, _]) X28 rfl
    clear X28
    replace G := G.abv m28
    first | replace GL26 := GL26.abv m28 | clear GL26
    replace hA := hA0.grow G
    replace hB := hB0.grow G
    replace cc2 := cc20.grow G
    replace hE2 := hE20.grow G
    replace OX := OX.md m28
    replace OC1 := OC1.md m28
    replace OR1 := OR1.md m28
    replace B1 := B1.md m28
    replace B2 := B2.md m28
    replace B3 := B3.md m28
    have zm28 := m28.size
    refine S_nl rfl rfl ?_
    refine th_n (hK8 _ _ ?_)
    clear hK8 K8
    refine D_start 14 37 (fun w => Mod (fun i => i = b3 ∨ ((i = bm ∨ wz ≤ i) ∧ i ≠ b27)) w) follows rfl rfl ?_  -- d2 r5
    intro w29 g29
    replace hA := hA.grow g29
    replace hB := hB.grow g29
    replace cc2 := cc2.grow g29
    replace hE2 := hE2.grow g29
    replace OX := OX.grow g29
    replace OC1 := OC1.grow g29
    replace OR1 := OR1.grow g29
    replace G := G.grow g29
    replace GL26 := GL26.grow g29
    replace B1 := B1.grow g29
    replace B2 := B2.grow g29
    replace B3 := B3.grow g29
    replace B27 := B27.grow g29
    have zg29 := g29.size
    have GS29 := Mod.refl (fun i => i = b3 ∨ ((i = bm ∨ wz ≤ i) ∧ i ≠ b27)) w29
    refine Dq (i := 0) rfl GS29 (fun _ _ => Y_field Try.underlying32 rfl fz32_0 (by decide) rfl) ?_
    refine Dq (i := 2) rfl GS29 (fun _ _ => Y_field Try.underlying63 rfl fz63_0 (by decide) rfl) ?_
    refine Dq (i := 3) rfl GS29 (fun _ hs => Y_load Try.underlying4 rfl rfl (by first | exact hs.cell (B27.at (by rfl)) (by intro h; first | omega | (dsimp only at h; omega)))) ?_
    refine Dq (i := 4) rfl GS29 (fun _ _ => Y_field Try.underlying63 rfl fz63_1 (by decide) rfl) ?_
    refine Dq (i := 5) rfl GS29 (fun _ hs => Y_load Try.underlying3 rfl rfl (by first | exact hs.cell (B27.at (by rfl)) (by intro h; first | omega | (dsimp only at h; omega)))) ?_
    refine Dq (i := 6) rfl GS29 (fun _ _ => Y_field Try.underlying63 rfl fz63_2 (by decide) rfl) ?_
    refine Dq (i := 7) rfl GS29 (fun _ hs => Y_load Try.underlying23 rfl rfl (by first | exact hs.cell (B27.at (by rfl)) (by intro h; first | omega | (dsimp only at h; omega)))) ?_
    refine D_2 (i := 1) (j := 8) (by kernel_rfl) ?_ ?_
    · -- operation 1 comes up
     refine E_val (i := 1) rfl (Y_load Try.underlying30 rfl rfl (B3.at (by rfl))) GS29 ?_
     refine D_1 (i := 8) (by kernel_rfl) ?_
     refine E_call rfl rfl en74 (impl_clone_int__c _ _ _ _ _ hE2 (by omega)) ?_  -- k6 impl.clone[int]
     rintro v31 w31 ⟨A31, q31, cap31, rfl, hq31, O31, g31⟩
     replace hA := hA.grow g31
     replace hB := hB.grow g31
     replace cc2 := cc2.grow g31
     replace hE2 := hE2.grow g31
     replace OX := OX.grow g31
     replace OC1 := OC1.grow g31
     replace OR1 := OR1.grow g31
     replace G := G.grow g31
     replace GL26 := GL26.grow g31
     replace GS29 := GS29.grow g31
     replace B1 := B1.grow g31
     replace B2 := B2.grow g31
     replace B3 := B3.grow g31
     replace B27 := B27.grow g31
     have zg31 := g31.size
     subst hq31
     obtain ⟨AY, rfl⟩ : ∃ x, x = A31 := ⟨_, rfl⟩
     obtain ⟨capY, rfl⟩ : ∃ x, x = cap31 := ⟨_, rfl⟩
     have OY := O31
     refine ⟨GS29, ?_⟩
     refine Dq (i := 9) rfl GS29 (fun _ _ => Y_build (cs := [_, _, _]) zr63 pc63 rfl rfl) ?_
     refine D_1 (i := 10) (by kernel_rfl) ?_
     refine E_bs1 (cs := [_, _, _]) (i := 10) rfl Try.underlying30 zr63 sz63 rfl rfl rfl ?_
     intro b32 w32 fb32 g32 B32
     refine ⟨GS29.grow g32, ?_⟩
     have lb32 := B32.lt
     replace hA := hA.grow g32
     replace hB := hB.grow g32
     replace cc2 := cc2.grow g32
     replace hE2 := hE2.grow g32
     replace OX := OX.grow g32
     replace OC1 := OC1.grow g32
     replace OR1 := OR1.grow g32
     replace OY := OY.grow g32
     replace G := G.grow g32
     replace GL26 := GL26.grow g32
     replace GS29 := GS29.grow g32
     replace B1 := B1.grow g32
     replace B2 := B2.grow g32
     replace B3 := B3.grow g32
     replace B27 := B27.grow g32
     have zg32 := g32.size
     refine D_1 (i := 11) (by kernel_rfl) ?_
     refine E_app2 (i := 11) rfl Try.underlying30 zr63 sz63 by63 rfl rfl OC1 rfl (Src.blk B32) (by simp [Value.oneCell']) (by omega) (Pr' := fun i => (i = bm ∨ wz ≤ i) ∧ i ≠ b27) (fun i hi => by omega) (by omega) ?_
     intro A33 cap33 w33 X33 m33 n33
     replace OR1 := OR1.app OC1 hne n33
     replace OC1 := X33
     clear X33 n33
     replace G := G.abv m33
     replace GL26 := GL26.trn m33
     replace GS29 := GS29.trn m33
     replace hA := hA0.grow G
     replace hB := hB0.grow G
     replace cc2 := cc20.grow G
     replace hE2 := hE20.grow G
     replace OX := OX.md m33
     replace OY := OY.md m33
     replace B1 := B1.md m33
     replace B2 := B2.md m33
     replace B3 := B3.md m33
     replace B27 := B27.md m33
     have zm33 := m33.size
     refine ⟨GS29, ?_⟩
     have OR2 := OR1.more (c := h.cells[k]) OY (fun i hi => by omega) (Pr' := fun i => wz ≤ i) (fun i hi => by omega) (fun i hi => by omega)
     replace OC1 : OW (fun i => (i = bm ∨ wz ≤ i) ∧ i ≠ b27) w33 63 3 A33 (q1 + 1) cap33 (flatC (h.cells.take (k + 1)) (rs ++ [(AY, capY)])) := by rw [List.take_succ_eq_append_getElem hk1, ← flat_more OR1.len]; exact OC1
     rw [← List.take_succ_eq_append_getElem hk1] at OR2
     refine Dq (i := 12) rfl GS29 (fun _ _ => Y_field Try.underlying32 rfl fz32_0 (by decide) rfl) ?_
     refine D_1 (i := 13) (by kernel_rfl) ?_
     refine E_stM (pre := []) (old := [_]) (post := [_]) (vs := [_]) (i := 13) rfl sz30 rfl rfl rfl (by first | rfl | assumption) B3 rfl rfl ?_
     intro w34 m34 X34
     replace B3 := Blk.eq (ys := [_, _]) X34 rfl
     clear X34
     replace G := G.abv m34
     replace GL26 := GL26.trn m34
     replace GS29 := GS29.trn m34
     replace hA := hA0.grow G
     replace hB := hB0.grow G
     replace cc2 := cc20.grow G
     replace hE2 := hE20.grow G
     replace OX := OX.md m34
     replace OC1 := OC1.md m34
     replace OR2 := OR2.md m34
     replace B1 := B1.md m34
     replace B2 := B2.md m34
     replace B27 := B27.md m34
     have zm34 := m34.size
     refine ⟨GS29, ?_⟩
     refine D_en (by kernel_rfl) rfl rfl ?_
     refine ib_n ?_
     refine th_n (hK7 _ _ ?_)
     clear hK7 K7
     refine Sb 37 rfl ?_  -- 6
     refine S_val (Y_inc rfl rfl (by omega)) ?_
     refine S_val (Y_move rfl) ?_
     refine S_nl rfl rfl ?_
     refine th_n ?_
     go_roundw  -- e1 of L1
     case rel =>
      refine ⟨?_, GL26⟩
      exact ⟨k + 1, _, _, _, _, rfl, by omega, by omega, B3, OC1.weak (fun i hi => hi.1), OR2⟩
     case measure =>
      exact dec_nat (by omega)
    · -- operation 8 comes up
     refine E_call rfl rfl en74 (impl_clone_int__c _ _ _ _ _ hE2 (by omega)) ?_  -- k7 impl.clone[int]
     rintro v35 w35 ⟨A35, q35, cap35, rfl, hq35, O35, g35⟩
     replace hA := hA.grow g35
     replace hB := hB.grow g35
     replace cc2 := cc2.grow g35
     replace hE2 := hE2.grow g35
     replace OX := OX.grow g35
     replace OC1 := OC1.grow g35
     replace OR1 := OR1.grow g35
     replace G := G.grow g35
     replace GL26 := GL26.grow g35
     replace GS29 := GS29.grow g35
     replace B1 := B1.grow g35
     replace B2 := B2.grow g35
     replace B3 := B3.grow g35
     replace B27 := B27.grow g35
     have zg35 := g35.size
     subst hq35
     obtain ⟨AY, rfl⟩ : ∃ x, x = A35 := ⟨_, rfl⟩
     obtain ⟨capY, rfl⟩ : ∃ x, x = cap35 := ⟨_, rfl⟩
     have OY := O35
     refine ⟨GS29, ?_⟩
     refine Dq (i := 9) rfl GS29 (fun _ _ => Y_build (cs := [_, _, _]) zr63 pc63 rfl rfl) ?_
     refine D_2 (i := 1) (j := 10) (by kernel_rfl) ?_ ?_
     · -- operation 1 comes up
      refine E_val (i := 1) rfl (Y_load Try.underlying30 rfl rfl (B3.at (by rfl))) GS29 ?_
      refine D_1 (i := 10) (by kernel_rfl) ?_
      refine E_bs1 (cs := [_, _, _]) (i := 10) rfl Try.underlying30 zr63 sz63 rfl rfl rfl ?_
      intro b37 w37 fb37 g37 B37
      refine ⟨GS29.grow g37, ?_⟩
      have lb37 := B37.lt
      replace hA := hA.grow g37
      replace hB := hB.grow g37
      replace cc2 := cc2.grow g37
      replace hE2 := hE2.grow g37
      replace OX := OX.grow g37
      replace OC1 := OC1.grow g37
      replace OR1 := OR1.grow g37
      replace OY := OY.grow g37
      replace G := G.grow g37
      replace GL26 := GL26.grow g37
      replace GS29 := GS29.grow g37
      replace B1 := B1.grow g37
      replace B2 := B2.grow g37
      replace B3 := B3.grow g37
      replace B27 := B27.grow g37
      have zg37 := g37.size
      refine D_1 (i := 11) (by kernel_rfl) ?_
      refine E_app2 (i := 11) rfl Try.underlying30 zr63 sz63 by63 rfl rfl OC1 rfl (Src.blk B37) (by simp [Value.oneCell']) (by omega) (Pr' := fun i => (i = bm ∨ wz ≤ i) ∧ i ≠ b27) (fun i hi => by omega) (by omega) ?_
      intro A38 cap38 w38 X38 m38 n38
      replace OR1 := OR1.app OC1 hne n38
      replace OC1 := X38
      clear X38 n38
      replace G := G.abv m38
      replace GL26 := GL26.trn m38
      replace GS29 := GS29.trn m38
      replace hA := hA0.grow G
      replace hB := hB0.grow G
      replace cc2 := cc20.grow G
      replace hE2 := hE20.grow G
      replace OX := OX.md m38
      replace OY := OY.md m38
      replace B1 := B1.md m38
      replace B2 := B2.md m38
      replace B3 := B3.md m38
      replace B27 := B27.md m38
      have zm38 := m38.size
      refine ⟨GS29, ?_⟩
      have OR2 := OR1.more (c := h.cells[k]) OY (fun i hi => by omega) (Pr' := fun i => wz ≤ i) (fun i hi => by omega) (fun i hi => by omega)
      replace OC1 : OW (fun i => (i = bm ∨ wz ≤ i) ∧ i ≠ b27) w38 63 3 A38 (q1 + 1) cap38 (flatC (h.cells.take (k + 1)) (rs ++ [(AY, capY)])) := by rw [List.take_succ_eq_append_getElem hk1, ← flat_more OR1.len]; exact OC1
      rw [← List.take_succ_eq_append_getElem hk1] at OR2
      refine Dq (i := 12) rfl GS29 (fun _ _ => Y_field Try.underlying32 rfl fz32_0 (by decide) rfl) ?_
      refine D_1 (i := 13) (by kernel_rfl) ?_
      refine E_stM (pre := []) (old := [_]) (post := [_]) (vs := [_]) (i := 13) rfl sz30 rfl rfl rfl (by first | rfl | assumption) B3 rfl rfl ?_
      intro w39 m39 X39
      replace B3 := Blk.eq (ys := [_, _]) X39 rfl
      clear X39
      replace G := G.abv m39
      replace GL26 := GL26.trn m39
      replace GS29 := GS29.trn m39
      replace hA := hA0.grow G
      replace hB := hB0.grow G
      replace cc2 := cc20.grow G
      replace hE2 := hE20.grow G
      replace OX := OX.md m39
      replace OC1 := OC1.md m39
      replace OR2 := OR2.md m39
      replace B1 := B1.md m39
      replace B2 := B2.md m39
      replace B27 := B27.md m39
      have zm39 := m39.size
      refine ⟨GS29, ?_⟩
      refine D_en (by kernel_rfl) rfl rfl ?_
      refine ib_n ?_
      refine th_n (hK7 _ _ ?_)
      clear hK7 K7
      refine Sb 37 rfl ?_  -- 6
      refine S_val (Y_inc rfl rfl (by omega)) ?_
      refine S_val (Y_move rfl) ?_
      refine S_nl rfl rfl ?_
      refine th_n ?_
      go_roundw  -- e2 of L1
      case rel =>
       refine ⟨?_, GL26⟩
       exact ⟨k + 1, _, _, _, _, rfl, by omega, by omega, B3, OC1.weak (fun i hi => hi.1), OR2⟩
      case measure =>
       exact dec_nat (by omega)
     · -- operation 10 comes up
      refine E_bs1 (cs := [_, _, _]) (i := 10) rfl Try.underlying30 zr63 sz63 rfl rfl rfl ?_
      intro b40 w40 fb40 g40 B40
      refine ⟨GS29.grow g40, ?_⟩
      have lb40 := B40.lt
      replace hA := hA.grow g40
      replace hB := hB.grow g40
      replace cc2 := cc2.grow g40
      replace hE2 := hE2.grow g40
      replace OX := OX.grow g40
      replace OC1 := OC1.grow g40
      replace OR1 := OR1.grow g40
      replace OY := OY.grow g40
      replace G := G.grow g40
      replace GL26 := GL26.grow g40
      replace GS29 := GS29.grow g40
      replace B1 := B1.grow g40
      replace B2 := B2.grow g40
      replace B3 := B3.grow g40
      replace B27 := B27.grow g40
      have zg40 := g40.size
      refine D_1 (i := 1) (by kernel_rfl) ?_
      refine E_val (i := 1) rfl (Y_load Try.underlying30 rfl rfl (B3.at (by rfl))) GS29 ?_
      refine D_1 (i := 11) (by kernel_rfl) ?_
      refine E_app2 (i := 11) rfl Try.underlying30 zr63 sz63 by63 rfl rfl OC1 rfl (Src.blk B40) (by simp [Value.oneCell']) (by omega) (Pr' := fun i => (i = bm ∨ wz ≤ i) ∧ i ≠ b27) (fun i hi => by omega) (by omega) ?_
      intro A42 cap42 w42 X42 m42 n42
      replace OR1 := OR1.app OC1 hne n42
      replace OC1 := X42
      clear X42 n42
      replace G := G.abv m42
      replace GL26 := GL26.trn m42
      replace GS29 := GS29.trn m42
      replace hA := hA0.grow G
      replace hB := hB0.grow G
      replace cc2 := cc20.grow G
      replace hE2 := hE20.grow G
      replace OX := OX.md m42
      replace OY := OY.md m42
      replace B1 := B1.md m42
      replace B2 := B2.md m42
      replace B3 := B3.md m42
      replace B27 := B27.md m42
      have zm42 := m42.size
      refine ⟨GS29, ?_⟩
      have OR2 := OR1.more (c := h.cells[k]) OY (fun i hi => by omega) (Pr' := fun i => wz ≤ i) (fun i hi => by omega) (fun i hi => by omega)
      replace OC1 : OW (fun i => (i = bm ∨ wz ≤ i) ∧ i ≠ b27) w42 63 3 A42 (q1 + 1) cap42 (flatC (h.cells.take (k + 1)) (rs ++ [(AY, capY)])) := by rw [List.take_succ_eq_append_getElem hk1, ← flat_more OR1.len]; exact OC1
      rw [← List.take_succ_eq_append_getElem hk1] at OR2
      refine Dq (i := 12) rfl GS29 (fun _ _ => Y_field Try.underlying32 rfl fz32_0 (by decide) rfl) ?_
      refine D_1 (i := 13) (by kernel_rfl) ?_
      refine E_stM (pre := []) (old := [_]) (post := [_]) (vs := [_]) (i := 13) rfl sz30 rfl rfl rfl (by first | rfl | assumption) B3 rfl rfl ?_
      intro w43 m43 X43
      replace B3 := Blk.eq (ys := [_, _]) X43 rfl
      clear X43
      replace G := G.abv m43
      replace GL26 := GL26.trn m43
      replace GS29 := GS29.trn m43
      replace hA := hA0.grow G
      replace hB := hB0.grow G
      replace cc2 := cc20.grow G
      replace hE2 := hE20.grow G
      replace OX := OX.md m43
      replace OC1 := OC1.md m43
      replace OR2 := OR2.md m43
      replace B1 := B1.md m43
      replace B2 := B2.md m43
      replace B27 := B27.md m43
      have zm43 := m43.size
      refine ⟨GS29, ?_⟩
      refine D_en (by kernel_rfl) rfl rfl ?_
      refine ib_n ?_
      refine th_n (hK7 _ _ ?_)
      clear hK7 K7
      refine Sb 37 rfl ?_  -- 6
      refine S_val (Y_inc rfl rfl (by omega)) ?_
      refine S_val (Y_move rfl) ?_
      refine S_nl rfl rfl ?_
      refine th_n ?_
      go_roundw  -- e3 of L1
      case rel =>
       refine ⟨?_, GL26⟩
       exact ⟨k + 1, _, _, _, _, rfl, by omega, by omega, B3, OC1.weak (fun i hi => hi.1), OR2⟩
      case measure =>
       exact dec_nat (by omega)
   · -- c1F
    replace hb1 := nb_tf hb1
    refine wp_exit ?_
    refine th_x ?_
    try clear GL26
    refine th_x ?_
    refine ib_e ?_
    refine th_n (hK3 _ _ ?_)
    clear hK6 K6 hK3 K3
    refine wp_seq_k fun K9 hK9 => ?_
    refine Sb 37 rfl ?_  -- 7
    refine S_val (Y_loadS Try.underlying32 rfl sz32 rfl (B3.row (by rfl))) ?_  -- l8
    refine S_stM (pre := []) (old := [_, _]) (post := []) (vs := [_, _]) sz32 rfl rfl rfl (by first | rfl | assumption) B2 rfl rfl ?_
    intro w44 m44 X44
    replace B2 := Blk.eq (ys := [_, _]) X44 rfl
    clear X44
    replace G := G.abv m44
    replace hA := hA0.grow G
    replace hB := hB0.grow G
    replace OX := OX.md m44
    replace OC1 := OC1.md m44
    replace OR1 := OR1.md m44
    replace B1 := B1.md m44
    replace B3 := B3.md m44
    have zm44 := m44.size
    refine S_nl rfl rfl ?_
    refine th_n (hK9 _ _ ?_)
    clear hK9 K9
    refine wp_ret ?_
    refine ret_rc (cs := [_, _]) Try.underlying32 rfl sz32 rfl rfl (B2.row (by rfl)) ?_  -- r1
    rw [List.take_of_length_le (by omega)] at hlk OC1 OR1
    rw [hq1, ← hlk] at OC1
    exact ⟨_, _, _, _, _, _, rs, rfl, by omega, rfl, OH.of_parts (h := h) (OC.grown OC1 OR1 (fun _ h => h) (fun _ h => .inr h)) OX.oi (fun k b h1 h2 h3 => by omega) (fun k hk => by omega) (fun k hk => by omega), G⟩
set_option maxHeartbeats 400000 in
set_option maxRecDepth 20000 in
theorem spec_l7Copy_c (Pr : Nat → Prop) (A B : Option Addr) (h : LH) (c d : Nat) (w : World) (hA : RC Pr w A h.cells) (hB : R1 Pr w B (ints h.roots)) (hz : hsize h ≤ 1048576) :
    Calls Try.prog 87 #[.agg #[.slice A h.cells.length c, .slice B h.roots.length d]] w (Ret fun v w' => ∃ A1 B1 n1 c1 n2 c2 rs, v = .agg #[.slice A1 n1 c1, .slice B1 n2 c2] ∧ n1 = (h).cells.length ∧ n2 = (h).roots.length ∧ OH (fun i => w.heap.size ≤ i) w' 63 3 A1 B1 (h) rs ∧ Grow w w') := by
 have hz1 := hsize_cells h
 have hz2 := hsize_roots h
 have hne : (63 : TypeId) ≠ 3 := by decide
 have hAl := hA.below
 have hBl := hB.below
 refine enter Try.func87 rfl Try.ntmps87 (L := [_,_,_,_,_,_,_,_,_,_,_,_,_,_,_,_,_,_,_,_,_,_,_,_,_,_,_,_,_,_,_,_,_,_,_,_,_,_,_,_,_,_,_,_]) rfl ?_
 have G := Mod.refl No w
 have hAl0 := hAl
 have hBl0 := hBl
 refine wp_seq_k fun K1 hK1 => ?_
 refine Sb 44 rfl ?_  -- 0
 refine S_box (cs := [_, _]) rfl rfl ?_
 intro b1 w1 fb1 g1 B1
 have lb1 := B1.lt
 replace hAl := hAl.grow g1
 replace hBl := hBl.grow g1
 replace G := G.grow g1
 have zg1 := g1.size
 refine S_alloc (cs := [_, _]) zr32 rfl ?_
 intro b2 w2 fb2 g2 B2
 have lb2 := B2.lt
 replace hAl := hAl.grow g2
 replace hBl := hBl.grow g2
 replace G := G.grow g2
 replace B1 := B1.grow g2
 have zg2 := g2.size
 refine S_nl rfl rfl ?_
 refine th_n (hK1 _ _ ?_)
 clear hK1 K1
 refine wp_seq_k fun K2 hK2 => ?_
 refine Sb 44 rfl ?_  -- 1
 refine S_bs0 Try.underlying23 sz3 ?_
 intro b3 w3 fb3 g3 B3
 have lb3 := B3.lt
 replace hAl := hAl.grow g3
 replace hBl := hBl.grow g3
 replace G := G.grow g3
 replace B1 := B1.grow g3
 replace B2 := B2.grow g3
 have zg3 := g3.size
 refine S_val (Y_field Try.underlying32 rfl fz32_1 (by decide) rfl) ?_
 refine S_val (Y_load Try.underlying23 rfl rfl (B1.at (by rfl))) ?_  -- l1
 have OY : OW (fun i => b2 < i) w3 3 1 (some ⟨b3, 0, none⟩) 0 0 [] := OW.of_blk B3 rfl (by decide) (by omega)
 refine S_app0 (news := ints h.roots) Try.underlying23 zr3 sz3 by3 rfl rfl OY (by rw [ints_len]; omega) (by have hsr := Src.r1 hBl; rw [ints_len] at hsr; exact hsr) ints_one (by omega) (Pr' := fun i => b2 < i) (fun i hi => hi) (by omega) ?_
 intro A4 cap4 w4 X4 m4
 replace OY := X4
 clear X4
 replace G := G.abv m4
 replace hAl := hAl0.grow G
 replace hBl := hBl0.grow G
 replace B1 := B1.md m4
 replace B2 := B2.md m4
 have zm4 := m4.size
 have OX := OY.lt
 obtain ⟨AR, rfl⟩ : ∃ x, x = A4 := ⟨_, rfl⟩
 obtain ⟨capR, rfl⟩ : ∃ x, x = cap4 := ⟨_, rfl⟩
 clear OY
 refine S_val (Y_build (cs := [_, _]) zr32 pc32 rfl rfl) ?_
 refine S_alloc (cs := [_, _]) zr32 rfl ?_
 intro b5 w5 fb5 g5 B5
 have lb5 := B5.lt
 replace hAl := hAl.grow g5
 replace hBl := hBl.grow g5
 replace OX := OX.grow g5
 replace G := G.grow g5
 replace B1 := B1.grow g5
 replace B2 := B2.grow g5
 have zg5 := g5.size
 refine S_stM (pre := []) (old := [_, _]) (post := []) (vs := [_, _]) sz32 rfl rfl rfl (by first | rfl | assumption) B5 rfl rfl ?_
 intro w6 m6 X6
 replace B5 := Blk.eq (ys := [_, _]) X6 rfl
 clear X6
 replace G := G.abv m6
 replace hAl := hAl0.grow G
 replace hBl := hBl0.grow G
 replace OX := OX.md m6
 replace B1 := B1.md m6
 replace B2 := B2.md m6
 have zm6 := m6.size
 refine S_nl rfl rfl ?_
 refine th_n (hK2 _ _ ?_)
 clear hK2 K2
 refine wp_seq_k fun K3 hK3 => ?_
 refine wp_seq_k fun K4 hK4 => ?_
 refine Sb 44 rfl ?_  -- 2
 refine S_val (Y_assign rfl) ?_
 refine S_nl rfl rfl ?_
 refine th_n (hK4 _ _ ?_)
 clear hK4 K4
 refine wp_block ?_
 obtain ⟨wz, hwz⟩ : ∃ x, x = w6.heap.size := ⟨_, rfl⟩
 have OC1 : OW (fun i => wz ≤ i) w6 63 3 none 0 0 (flatC ([] : List LC) []) := OW.nil _ _ _ _
 have OR1 : ORs (fun i => wz ≤ i) w6 3 ([] : List LC) [] := ORs.nil _ _ _
 go_loopw [4] (fun u4 wr => (∃ (k q cap : Nat) (A1 : Option Addr) (rs : List (Option Addr × Nat)), u4 = .int .i64 k ∧ k ≤ h.cells.length ∧ q = k ∧ Blk wr b5 32 [.slice A1 q cap, .slice AR h.roots.length capR].toArray ∧ OW (fun i => wz ≤ i) wr 63 3 A1 q cap (flatC (h.cells.take k) rs) ∧ ORs (fun i => wz ≤ i) wr 3 (h.cells.take k) rs) ∧ Mod (fun i => i = b5 ∨ (wz ≤ i) ∨ wz ≤ i) w6 wr) (fun u4 wr => h.cells.length - (intOf u4).toNat)  -- L1
 case atStart =>
  refine ⟨?_, Mod.refl _ _⟩
  exact ⟨0, 0, _, _, [], rfl, by omega, rfl, B5, OC1, OR1⟩
 case round =>
  obtain ⟨w7, rfl⟩ : ∃ x : World, x = wr := ⟨_, rfl⟩
  obtain ⟨hrel, g7⟩ := hrel
  clear B5
  clear OC1
  clear OR1
  replace G := G.abv g7
  replace hAl := hAl0.grow G
  replace hBl := hBl0.grow G
  replace OX := OX.md g7
  replace B1 := B1.md g7
  replace B2 := B2.md g7
  have zg7 := g7.size
  obtain ⟨k, q1, cap1, A1, rs, rfl, hk, hq1, B5, OC1, OR1⟩ := hrel
  have hlk : (h.cells.take k).length = k := by simp; omega
  have GL7 := g7
  refine wp_seq_k fun K5 hK5 => ?_
  refine wp_seq_k fun K6 hK6 => ?_
  refine Sb 44 rfl ?_  -- 3
  refine S_val (Y_move rfl) ?_
  refine S_val (Y_field Try.underlying32 rfl fz32_0 (by decide) rfl) ?_
  refine S_val (Y_load Try.underlying30 rfl rfl (B1.at (by rfl))) ?_  -- l2
  refine S_val (Y_len Try.underlying30 rfl) ?_
  refine S_val (Y_lss rfl rfl) ?_
  refine S_nl rfl rfl ?_
  refine th_n (hK6 _ _ ?_)
  clear hK6 K6
  refine S_if rfl (fun hb1 => ?_) (fun hb1 => ?_)  -- c1
  · -- c1T
   replace hb1 := nb_tt hb1
   have hk1 : k < h.cells.length := by omega
   obtain ⟨g2, o2, E2, d2, rfl, hp2, cc20, hE20⟩ := hAl0.cell hk1
   have cc2 := cc20.grow G
   have hE2 := hE20.grow G
   have hr1 := hsize_refs h hk1
   replace OC1 := OC1.lt
   replace OR1 := OR1.lt
   refine wp_skip ?_
   refine th_n (hK5 _ _ ?_)
   clear hK5 K5
   refine wp_seq_k fun K7 hK7 => ?_
   refine wp_block ?_
   refine D_start 27 44 (fun w => Mod (fun i => i = b5 ∨ wz ≤ i) w) follows rfl rfl ?_  -- d1 r5
   intro w8 g8
   replace hAl := hAl.grow g8
   replace hBl := hBl.grow g8
   replace cc2 := cc2.grow g8
   replace hE2 := hE2.grow g8
   replace OX := OX.grow g8
   replace OC1 := OC1.grow g8
   replace OR1 := OR1.grow g8
   replace G := G.grow g8
   replace GL7 := GL7.grow g8
   replace B1 := B1.grow g8
   replace B2 := B2.grow g8
   replace B5 := B5.grow g8
   have zg8 := g8.size
   have GS8 := Mod.refl (fun i => i = b5 ∨ wz ≤ i) w8
   refine Dq (i := 0) rfl GS8 (fun _ _ => Y_field Try.underlying32 rfl fz32_0 (by decide) rfl) ?_
   refine Dq (i := 2) rfl GS8 (fun _ _ => Y_field Try.underlying32 rfl fz32_0 (by decide) rfl) ?_
   refine Dq (i := 3) rfl GS8 (fun _ hs => Y_load Try.underlying30 rfl rfl (by first | exact hs.cell (B1.at (by rfl)) (by intro h; first | omega | (dsimp only at h; omega)))) ?_
   refine Dq (i := 4) rfl GS8 (fun _ _ => Y_move rfl) ?_
   refine Dq (i := 5) rfl GS8 (fun _ _ => Y_index Try.underlying30 sz63 rfl rfl (by first | assumption | omega)) ?_
   refine Dq (i := 6) rfl GS8 (fun _ _ => Y_field Try.underlying63 rfl fz63_0 (by decide) rfl) ?_
   refine Dq (i := 7) rfl GS8 (fun _ hs => Y_load Try.underlying4 rfl rfl (by first | exact hs.cell (by assumption) (by intro h; first | omega | (dsimp only at h; omega)) | exact hs.cell (cc2.at (by rfl)) (by intro h; first | omega | (dsimp only at h; omega)) | exact hs.cell (B1.at (by rfl)) (by intro h; first | omega | (dsimp only at h; omega)) | exact hs.cell (B2.at (by rfl)) (by intro h; first | omega | (dsimp only at h; omega)) | exact hs.cell (B5.at (by rfl)) (by intro h; first | omega | (dsimp only at h; omega)))) ?_
   refine Dq (i := 8) rfl GS8 (fun _ _ => Y_field Try.underlying32 rfl fz32_0 (by decide) rfl) ?_
   refine Dq (i := 9) rfl GS8 (fun _ hs => Y_load Try.underlying30 rfl rfl (by first | exact hs.cell (B1.at (by rfl)) (by intro h; first | omega | (dsimp only at h; omega)))) ?_
   refine Dq (i := 10) rfl GS8 (fun _ _ => Y_move rfl) ?_
   refine Dq (i := 11) rfl GS8 (fun _ _ => Y_index Try.underlying30 sz63 rfl rfl (by first | assumption | omega)) ?_
   refine Dq (i := 12) rfl GS8 (fun _ _ => Y_field Try.underlying63 rfl fz63_1 (by decide) rfl) ?_
   refine Dq (i := 13) rfl GS8 (fun _ hs => Y_load Try.underlying3 rfl rfl (by first | exact hs.cell (by assumption) (by intro h; first | omega | (dsimp only at h; omega)) | exact hs.cell (cc2.at (by rfl)) (by intro h; first | omega | (dsimp only at h; omega)) | exact hs.cell (B1.at (by rfl)) (by intro h; first | omega | (dsimp only at h; omega)) | exact hs.cell (B2.at (by rfl)) (by intro h; first | omega | (dsimp only at h; omega)) | exact hs.cell (B5.at (by rfl)) (by intro h; first | omega | (dsimp only at h; omega)))) ?_
   refine Dq (i := 15) rfl GS8 (fun _ _ => Y_field Try.underlying32 rfl fz32_0 (by decide) rfl) ?_
   refine Dq (i := 16) rfl GS8 (fun _ hs => Y_load Try.underlying30 rfl rfl (by first | exact hs.cell (B1.at (by rfl)) (by intro h; first | omega | (dsimp only at h; omega)))) ?_
   refine Dq (i := 17) rfl GS8 (fun _ _ => Y_move rfl) ?_
   refine Dq (i := 18) rfl GS8 (fun _ _ => Y_index Try.underlying30 sz63 rfl rfl (by first | assumption | omega)) ?_
   refine Dq (i := 19) rfl GS8 (fun _ _ => Y_field Try.underlying63 rfl fz63_2 (by decide) rfl) ?_
   refine Dq (i := 20) rfl GS8 (fun _ hs => Y_load Try.underlying23 rfl rfl (by first | exact hs.cell (by assumption) (by intro h; first | omega | (dsimp only at h; omega)) | exact hs.cell (cc2.at (by rfl)) (by intro h; first | omega | (dsimp only at h; omega)) | exact hs.cell (B1.at (by rfl)) (by intro h; first | omega | (dsimp only at h; omega)) | exact hs.cell (B2.at (by rfl)) (by intro h; first | omega | (dsimp only at h; omega)) | exact hs.cell (B5.at (by rfl)) (by intro h; first | omega | (dsimp only at h; omega)))) ?_
   refine D_2 (i := 1) (j := 14) (by kernel_rfl) ?_ ?_
   · -- operation 1 comes up
    refine E_val (i := 1) rfl (Y_load Try.underlying30 rfl rfl (B5.at (by rfl))) GS8 ?_
    refine D_1 (i := 14) (by kernel_rfl) ?_
    refine E_bs0 (i := 14) rfl Try.underlying23 sz3 ?_
    intro b10 w10 fb10 g10 B10
    refine ⟨GS8.grow g10, ?_⟩
    have lb10 := B10.lt
    replace hAl := hAl.grow g10
    replace hBl := hBl.grow g10
    replace cc2 := cc2.grow g10
    replace hE2 := hE2.grow g10
    replace OX := OX.grow g10
    replace OC1 := OC1.grow g10
    replace OR1 := OR1.grow g10
    replace G := G.grow g10
    replace GL7 := GL7.grow g10
    replace GS8 := GS8.grow g10
    replace B1 := B1.grow g10
    replace B2 := B2.grow g10
    replace B5 := B5.grow g10
    have zg10 := g10.size
    refine D_1 (i := 21) (by kernel_rfl) ?_
    have OY : OW (fun i => b10 ≤ i) w10 3 1 (some ⟨b10, 0, none⟩) 0 0 [] := OW.of_blk B10 rfl (by decide) (Nat.le_refl _)
    refine E_app0 (i := 21) rfl (news := ints h.cells[k].refs) Try.underlying23 zr3 sz3 by3 rfl rfl OY (by rw [ints_len]; omega) (by have hsr := Src.r1 hE2; rw [ints_len] at hsr; exact hsr) ints_one (by omega) (Pr' := fun i => b10 ≤ i) (fun i hi => hi) (by omega) ?_
    intro A11 cap11 w11 X11 m11
    replace OY := X11
    clear X11
    replace G := G.abv m11
    first | replace GL7 := GL7.abv m11 | clear GL7
    replace GS8 := GS8.abv m11
    replace hAl := hAl0.grow G
    replace hBl := hBl0.grow G
    replace cc2 := cc20.grow G
    replace hE2 := hE20.grow G
    replace OX := OX.md m11
    replace OC1 := OC1.md m11
    replace OR1 := OR1.md m11
    replace B1 := B1.md m11
    replace B2 := B2.md m11
    replace B5 := B5.md m11
    have zm11 := m11.size
    refine ⟨GS8, ?_⟩
    obtain ⟨AY, rfl⟩ : ∃ x, x = A11 := ⟨_, rfl⟩
    obtain ⟨capY, rfl⟩ : ∃ x, x = cap11 := ⟨_, rfl⟩
    refine Dq (i := 22) rfl GS8 (fun _ _ => Y_build (cs := [_, _, _]) zr63 pc63 rfl rfl) ?_
    refine D_1 (i := 23) (by kernel_rfl) ?_
    refine E_bs1 (cs := [_, _, _]) (i := 23) rfl Try.underlying30 zr63 sz63 rfl rfl rfl ?_
    intro b12 w12 fb12 g12 B12
    refine ⟨GS8.grow g12, ?_⟩
    have lb12 := B12.lt
    replace hAl := hAl.grow g12
    replace hBl := hBl.grow g12
    replace cc2 := cc2.grow g12
    replace hE2 := hE2.grow g12
    replace OX := OX.grow g12
    replace OC1 := OC1.grow g12
    replace OR1 := OR1.grow g12
    replace OY := OY.grow g12
    replace G := G.grow g12
    replace GL7 := GL7.grow g12
    replace GS8 := GS8.grow g12
    replace B1 := B1.grow g12
    replace B2 := B2.grow g12
    replace B5 := B5.grow g12
    have zg12 := g12.size
    refine D_1 (i := 24) (by kernel_rfl) ?_
    refine E_app2 (i := 24) rfl Try.underlying30 zr63 sz63 by63 rfl rfl OC1 rfl (Src.blk B12) (by simp [Value.oneCell']) (by omega) (Pr' := fun i => (wz ≤ i)) (fun i hi => by omega) (by omega) ?_
    intro A13 cap13 w13 X13 m13 n13
    replace OR1 := OR1.app OC1 hne n13
    replace OC1 := X13
    clear X13 n13
    replace G := G.abv m13
    replace GL7 := GL7.trn m13
    replace GS8 := GS8.trn m13
    replace hAl := hAl0.grow G
    replace hBl := hBl0.grow G
    replace cc2 := cc20.grow G
    replace hE2 := hE20.grow G
    replace OX := OX.md m13
    replace OY := OY.md m13
    replace B1 := B1.md m13
    replace B2 := B2.md m13
    replace B5 := B5.md m13
    have zm13 := m13.size
    refine ⟨GS8, ?_⟩
    have OR2 := OR1.more (c := h.cells[k]) OY (fun i hi => by omega) (Pr' := fun i => wz ≤ i) (fun i hi => by omega) (fun i hi => by omega)
    replace OC1 : OW (fun i => (wz ≤ i)) w13 63 3 A13 (q1 + 1) cap13 (flatC (h.cells.take (k + 1)) (rs ++ [(AY, capY)])) := by rw [List.take_succ_eq_append_getElem hk1, ← flat_more OR1.len]; exact OC1
    rw [← List.take_succ_eq_append_getElem hk1] at OR2
    refine Dq (i := 25) rfl GS8 (fun _ _ => Y_field Try.underlying32 rfl fz32_0 (by decide) rfl) ?_
    refine D_1 (i := 26) (by kernel_rfl) ?_
    refine E_stM (pre := []) (old := [_]) (post := [_]) (vs := [_]) (i := 26) rfl sz30 rfl rfl rfl (by first | rfl | assumption) B5 rfl rfl ?_
    intro w14 m14 X14
    replace B5 := Blk.eq (ys := [_, _]) X14 rfl
    clear X14
    replace G := G.abv m14
    replace GL7 := GL7.trn m14
    replace GS8 := GS8.trn m14
    replace hAl := hAl0.grow G
    replace hBl := hBl0.grow G
    replace cc2 := cc20.grow G
    replace hE2 := hE20.grow G
    replace OX := OX.md m14
    replace OC1 := OC1.md m14
    replace OR2 := OR2.md m14
    replace B1 := B1.md m14
    replace B2 := B2.md m14
    have zm14 := m14.size
    refine ⟨GS8, ?_⟩
    refine D_en (by kernel_rfl) rfl rfl ?_
    refine ib_n ?_
    refine th_n (hK7 _ _ ?_)
    clear hK7 K7
    refine Sb 44 rfl ?_  -- 4
    refine S_val (Y_move rfl) ?_
    refine S_val (Y_inc rfl rfl (by omega)) ?_
    refine S_val (Y_assign rfl) ?_
    refine S_nl rfl rfl ?_
    refine th_n ?_
    go_roundw  -- e1 of L1
    case rel =>
     refine ⟨?_, GL7⟩
     exact ⟨k + 1, _, _, _, _, rfl, by omega, by omega, B5, OC1, OR2⟩
    case measure =>
     exact dec_nat (by omega)
   · -- operation 14 comes up
    refine E_bs0 (i := 14) rfl Try.underlying23 sz3 ?_
    intro b15 w15 fb15 g15 B15
    refine ⟨GS8.grow g15, ?_⟩
    have lb15 := B15.lt
    replace hAl := hAl.grow g15
    replace hBl := hBl.grow g15
    replace cc2 := cc2.grow g15
    replace hE2 := hE2.grow g15
    replace OX := OX.grow g15
    replace OC1 := OC1.grow g15
    replace OR1 := OR1.grow g15
    replace G := G.grow g15
    replace GL7 := GL7.grow g15
    replace GS8 := GS8.grow g15
    replace B1 := B1.grow g15
    replace B2 := B2.grow g15
    replace B5 := B5.grow g15
    have zg15 := g15.size
    refine D_2 (i := 1) (j := 21) (by kernel_rfl) ?_ ?_
    · -- operation 1 comes up
     refine E_val (i := 1) rfl (Y_load Try.underlying30 rfl rfl (B5.at (by rfl))) GS8 ?_
     refine D_1 (i := 21) (by kernel_rfl) ?_
     have OY : OW (fun i => b15 ≤ i) w15 3 1 (some ⟨b15, 0, none⟩) 0 0 [] := OW.of_blk B15 rfl (by decide) (Nat.le_refl _)
     refine E_app0 (i := 21) rfl (news := ints h.cells[k].refs) Try.underlying23 zr3 sz3 by3 rfl rfl OY (by rw [ints_len]; omega) (by have hsr := Src.r1 hE2; rw [ints_len] at hsr; exact hsr) ints_one (by omega) (Pr' := fun i => b15 ≤ i) (fun i hi => hi) (by omega) ?_
     intro A17 cap17 w17 X17 m17
     replace OY := X17
     clear X17
     replace G := G.abv m17
     first | replace GL7 := GL7.abv m17 | clear GL7
     replace GS8 := GS8.abv m17
     replace hAl := hAl0.grow G
     replace hBl := hBl0.grow G
     replace cc2 := cc20.grow G
     replace hE2 := hE20.grow G
     replace OX := OX.md m17
     replace OC1 := OC1.md m17
     replace OR1 := OR1.md m17
     replace B1 := B1.md m17
     replace B2 := B2.md m17
     replace B5 := B5.md m17
     have zm17 := m17.size
     refine ⟨GS8, ?_⟩
     obtain ⟨AY, rfl⟩ : ∃ x, x = A17 := ⟨_, rfl⟩
     obtain ⟨capY, rfl⟩ : ∃ x, x = cap17 := ⟨_, rfl⟩
     refine Dq (i := 22) rfl GS8 (fun _ _ => Y_build (cs := [_, _, _]) zr63 pc63 rfl rfl) ?_
     refine D_1 (i := 23) (by kernel_rfl) ?_
     refine E_bs1 (cs := [_, _, _]) (i := 23) rfl Try.underlying30 zr63 sz63 rfl rfl rfl ?_
     intro b18 w18 fb18 g18 B18
     refine ⟨GS8.grow g18, ?_⟩
     have lb18 := B18.lt
     replace hAl := hAl.grow g18
     replace hBl := hBl.grow g18
     replace cc2 := cc2.grow g18
     replace hE2 := hE2.grow g18
     replace OX := OX.grow g18
     replace OC1 := OC1.grow g18
     replace OR1 := OR1.grow g18
     replace OY := OY.grow g18
     replace G := G.grow g18
     replace GL7 := GL7.grow g18
     replace GS8 := GS8.grow g18
     replace B1 := B1.grow g18
     replace B2 := B2.grow g18
     replace B5 := B5.grow g18
     have zg18 := g18.size
     refine D_1 (i := 24) (by kernel_rfl) ?_
     refine E_app2 (i := 24) rfl Try.underlying30 zr63 sz63 by63 rfl rfl OC1 rfl (Src.blk B18) (by simp [Value.oneCell']) (by omega) (Pr' := fun i => (wz ≤ i)) (fun i hi => by omega) (by omega) ?_
     intro A19 cap19 w19 X19 m19 n19
     replace OR1 := OR1.app OC1 hne n19
     replace OC1 := X19
     clear X19 n19
     replace G := G.abv m19
     replace GL7 := GL7.trn m19
     replace GS8 := GS8.trn m19
     replace hAl := hAl0.grow G
     replace hBl := hBl0.grow G
     replace cc2 := cc20.grow G
     replace hE2 := hE20.grow G
     replace OX := OX.md m19
     replace OY := OY.md m19
     replace B1 := B1.md m19
     replace B2 := B2.md m19
     replace B5 := B5.md m19
     have zm19 := m19.size
     refine ⟨GS8, ?_⟩
     have OR2 := OR1.more (c := h.cells[k]) OY (fun i hi => by omega) (Pr' := fun i => wz ≤ i) (fun i hi => by omega) (fun i hi => by omega)
     replace OC1 : OW (fun i => (wz ≤ i)) w19 63 3 A19 (q1 + 1) cap19 (flatC (h.cells.take (k + 1)) (rs ++ [(AY, capY)])) := by rw [List.take_succ_eq_append_getElem hk1, ← flat_more OR1.len]; exact OC1
     rw [← List.take_succ_eq_append_getElem hk1] at OR2
     refine Dq (i := 25) rfl GS8 (fun _ _ => Y_field Try.underlying32 rfl fz32_0 (by decide) rfl) ?_
     refine D_1 (i := 26) (by kernel_rfl) ?_
     refine E_stM (pre := []) (old := [_]) (post := [_]) (vs := [_]) (i := 26) rfl sz30 rfl rfl rfl (by first | rfl | assumption) B5 rfl rfl ?_
     intro w20 m20 X20
     replace B5 := Blk.eq (ys := [_, _]) X20 rfl
     clear X20
     replace G := G.abv m20
     replace GL7 := GL7.trn m20
     replace GS8 := GS8.trn m20
     replace hAl := hAl0.grow G
     replace hBl := hBl0.grow G
     replace cc2 := cc20.grow G
     replace hE2 := hE20.grow G
     replace OX := OX.md m20
     replace OC1 := OC1.md m20
     replace OR2 := OR2.md m20
     replace B1 := B1.md m20
     replace B2 := B2.md m20
     have zm20 := m20.size
     refine ⟨GS8, ?_⟩
     refine D_en (by kernel_rfl) rfl rfl ?_
     refine ib_n ?_
     refine th_n (hK7 _ _ ?_)
     clear hK7 K7
     refine Sb 44 rfl ?_  -- 4
     refine S_val (Y_move rfl) ?_
     refine S_val (Y_inc rfl rfl (by omega)) ?_
     refine S_val (Y_assign rfl) ?_
     refine S_nl rfl rfl ?_
     refine th_n ?_
     go_roundw  -- e2 of L1
     case rel =>
      refine ⟨?_, GL7⟩
      exact ⟨k + 1, _, _, _, _, rfl, by omega, by omega, B5, OC1, OR2⟩
     case measure =>
      exact dec_nat (by omega)
    · -- operation 21 comes up
     have OY : OW (fun i => b15 ≤ i) w15 3 1 (some ⟨b15, 0, none⟩) 0 0 [] := OW.of_blk B15 rfl (by decide) (Nat.le_refl _)
     refine E_app0 (i := 21) rfl (news := ints h.cells[k].refs) Try.underlying23 zr3 sz3 by3 rfl rfl OY (by rw [ints_len]; omega) (by have hsr := Src.r1 hE2; rw [ints_len] at hsr; exact hsr) ints_one (by omega) (Pr' := fun i => b15 ≤ i) (fun i hi => hi) (by omega) ?_
     intro A21 cap21 w21 X21 m21
     replace OY := X21
     clear X21
     replace G := G.abv m21
     first | replace GL7 := GL7.abv m21 | clear GL7
     replace GS8 := GS8.abv m21
     replace hAl := hAl0.grow G
     replace hBl := hBl0.grow G
     replace cc2 := cc20.grow G
     replace hE2 := hE20.grow G
     replace OX := OX.md m21
     replace OC1 := OC1.md m21
     replace OR1 := OR1.md m21
     replace B1 := B1.md m21
     replace B2 := B2.md m21
     replace B5 := B5.md m21
     have zm21 := m21.size
     refine ⟨GS8, ?_⟩
     obtain ⟨AY, rfl⟩ : ∃ x, x = A21 := ⟨_, rfl⟩
     obtain ⟨capY, rfl⟩ : ∃ x, x = cap21 := ⟨_, rfl⟩
     refine Dq (i := 22) rfl GS8 (fun _ _ => Y_build (cs := [_, _, _]) zr63 pc63 rfl rfl) ?_
     refine D_2 (i := 1) (j := 23) (by kernel_rfl) ?_ ?_
     · -- operation 1 comes up
      refine E_val (i := 1) rfl (Y_load Try.underlying30 rfl rfl (B5.at (by rfl))) GS8 ?_
      refine D_1 (i := 23) (by kernel_rfl) ?_
      refine E_bs1 (cs := [_, _, _]) (i := 23) rfl Try.underlying30 zr63 sz63 rfl rfl rfl ?_
      intro b23 w23 fb23 g23 B23
      refine ⟨GS8.grow g23, ?_⟩
      have lb23 := B23.lt
      replace hAl := hAl.grow g23
      replace hBl := hBl.grow g23
      replace cc2 := cc2.grow g23
      replace hE2 := hE2.grow g23
      replace OX := OX.grow g23
      replace OC1 := OC1.grow g23
      replace OR1 := OR1.grow g23
      replace OY := OY.grow g23
      replace G := G.grow g23
      replace GL7 := GL7.grow g23
      replace GS8 := GS8.grow g23
      replace B1 := B1.grow g23
      replace B2 := B2.grow g23
      replace B5 := B5.grow g23
      have zg23 := g23.size
      refine D_1 (i := 24) (by kernel_rfl) ?_
      refine E_app2 (i := 24) rfl Try.underlying30 zr63 sz63 by63 rfl rfl OC1 rfl (Src.blk B23) (by simp [Value.oneCell']) (by omega) (Pr' := fun i => (wz ≤ i)) (fun i hi => by omega) (by omega) ?_
      intro A24 cap24 w24 X24 m24 n24
      replace OR1 := OR1.app OC1 hne n24
      replace OC1 := X24
      clear X24 n24
      replace G := G.abv m24
      replace GL7 := GL7.trn m24
      replace GS8 := GS8.trn m24
      replace hAl := hAl0.grow G
      replace hBl := hBl0.grow G
      replace cc2 := cc20.grow G
      replace hE2 := hE20.grow G
      replace OX := OX.md m24
      replace OY := OY.md m24
      replace B1 := B1.md m24
      replace B2 := B2.md m24
      replace B5 := B5.md m24
      have zm24 := m24.size
      refine ⟨GS8, ?_⟩
      have OR2 := OR1.more (c := h.cells[k]) OY (fun i hi => by omega) (Pr' := fun i => wz ≤ i) (fun i hi => by omega) (fun i hi => by omega)
      replace OC1 : OW (fun i => (wz ≤ i)) w24 63 3 A24 (q1 + 1) cap24 (flatC (h.cells.take (k + 1)) (rs ++ [(AY, capY)])) := by rw [List.take_succ_eq_append_getElem hk1, ← flat_more OR1.len]; exact OC1
      rw [← List.take_succ_eq_append_getElem hk1] at OR2
      refine Dq (i := 25) rfl GS8 (fun _ _ => Y_field Try.underlying32 rfl fz32_0 (by decide) rfl) ?_
      refine D_1 (i := 26) (by kernel_rfl) ?_
      refine E_stM (pre := []) (old := [_]) (post := [_]) (vs := [_]) (i := 26) rfl sz30 rfl rfl rfl (by first | rfl | assumption) B5 rfl rfl ?_
      intro w25 m25 X25
      replace B5 := Blk.eq (ys := [_, _]) X25 rfl
      clear X25
      replace G := G.abv m25
      replace GL7 := GL7.trn m25
      replace GS8 := GS8.trn m25
      replace hAl := hAl0.grow G
      replace hBl := hBl0.grow G
      replace cc2 := cc20.grow G
      replace hE2 := hE20.grow G
      replace OX := OX.md m25
      replace OC1 := OC1.md m25
      replace OR2 := OR2.md m25
      replace B1 := B1.md m25
      replace B2 := B2.md m25
      have zm25 := m25.size
      refine ⟨GS8, ?_⟩
      refine D_en (by kernel_rfl) rfl rfl ?_
      refine ib_n ?_
      refine th_n (hK7 _ _ ?_)
      clear hK7 K7
      refine Sb 44 rfl ?_  -- 4
      refine S_val (Y_move rfl) ?_
      refine S_val (Y_inc rfl rfl (by omega)) ?_
      refine S_val (Y_assign rfl) ?_
      refine S_nl rfl rfl ?_
      refine th_n ?_
      go_roundw  -- e3 of L1
      case rel =>
       refine ⟨?_, GL7⟩
       exact ⟨k + 1, _, _, _, _, rfl, by omega, by omega, B5, OC1, OR2⟩
      case measure =>
       exact dec_nat (by omega)
     · -- operation 23 comes up
      refine E_bs1 (cs := [_, _, _]) (i := 23) rfl Try.underlying30 zr63 sz63 rfl rfl rfl ?_
      intro b26 w26 fb26 g26 B26
      refine ⟨GS8.grow g26, ?_⟩
      have lb26 := B26.lt
      replace hAl := hAl.grow g26
      replace hBl := hBl.grow g26
      replace cc2 := cc2.grow g26
      replace hE2 := hE2.grow g26
      replace OX := OX.grow g26
      replace OC1 := OC1.grow g26
      replace OR1 := OR1.grow g26
      replace OY := OY.grow g26
      replace G := G.grow g26
      replace GL7 := GL7.grow g26
      replace GS8 := GS8.grow g26
      replace B1 := B1.grow g26
      replace B2 := B2.grow g26
      replace B5 := B5.grow g26
      have zg26 := g26.size
      refine D_1 (i := 1) (by kernel_rfl) ?_
      refine E_val (i := 1) rfl (Y_load Try.underlying30 rfl rfl (B5.at (by rfl))) GS8 ?_
      refine D_1 (i := 24) (by kernel_rfl) ?_
      refine E_app2 (i := 24) rfl Try.underlying30 zr63 sz63 by63 rfl rfl OC1 rfl (Src.blk B26) (by simp [Value.oneCell']) (by omega) (Pr' := fun i => (wz ≤ i)) (fun i hi => by omega) (by omega) ?_
      intro A28 cap28 w28 X28 m28 n28
      replace OR1 := OR1.app OC1 hne n28
      replace OC1 := X28
      clear X28 n28
      replace G := G.abv m28
      replace GL7 := GL7.trn m28
      replace GS8 := GS8.trn m28
      replace hAl := hAl0.grow G
      replace hBl := hBl0.grow G
      replace cc2 := cc20.grow G
      replace hE2 := hE20.grow G
      replace OX := OX.md m28
      replace OY := OY.md m28
      replace B1 := B1.md m28
      replace B2 := B2.md m28
      replace B5 := B5.md m28
      have zm28 := m28.size
      refine ⟨GS8, ?_⟩
      have OR2 := OR1.more (c := h.cells[k]) OY (fun i hi => by omega) (Pr' := fun i => wz ≤ i) (fun i hi => by omega) (fun i hi => by omega)
      replace OC1 : OW (fun i => (wz ≤ i)) w28 63 3 A28 (q1 + 1) cap28 (flatC (h.cells.take (k + 1)) (rs ++ [(AY, capY)])) := by rw [List.take_succ_eq_append_getElem hk1, ← flat_more OR1.len]; exact OC1
      rw [← List.take_succ_eq_append_getElem hk1] at OR2
      refine Dq (i := 25) rfl GS8 (fun _ _ => Y_field Try.underlying32 rfl fz32_0 (by decide) rfl) ?_
      refine D_1 (i := 26) (by kernel_rfl) ?_
      refine E_stM (pre := []) (old := [_]) (post := [_]) (vs := [_]) (i := 26) rfl sz30 rfl rfl rfl (by first | rfl | assumption) B5 rfl rfl ?_
      intro w29 m29 X29
      replace B5 := Blk.eq (ys := [_, _]) X29 rfl
      clear X29
      replace G := G.abv m29
      replace GL7 := GL7.trn m29
      replace GS8 := GS8.trn m29
      replace hAl := hAl0.grow G
      replace hBl := hBl0.grow G
      replace cc2 := cc20.grow G
      replace hE2 := hE20.grow G
      replace OX := OX.md m29
      replace OC1 := OC1.md m29
      replace OR2 := OR2.md m29
      replace B1 := B1.md m29
      replace B2 := B2.md m29
      have zm29 := m29.size
      refine ⟨GS8, ?_⟩
      refine D_en (by kernel_rfl) rfl rfl ?_
      refine ib_n ?_
      refine th_n (hK7 _ _ ?_)
      clear hK7 K7
      refine Sb 44 rfl ?_  -- 4
      refine S_val (Y_move rfl) ?_
      refine S_val (Y_inc rfl rfl (by omega)) ?_
      refine S_val (Y_assign rfl) ?_
      refine S_nl rfl rfl ?_
      refine th_n ?_
      go_roundw  -- e4 of L1
      case rel =>
       refine ⟨?_, GL7⟩
       exact ⟨k + 1, _, _, _, _, rfl, by omega, by omega, B5, OC1, OR2⟩
      case measure =>
       exact dec_nat (by omega)
  · -- c1F
   replace hb1 := nb_tf hb1
   refine wp_exit ?_
   refine th_x ?_
   try clear GL7
   refine th_x ?_
   refine ib_e ?_
   refine th_n (hK3 _ _ ?_)
   clear hK5 K5 hK3 K3
   refine wp_seq_k fun K8 hK8 => ?_
   refine Sb 44 rfl ?_  -- 6
   refine S_val (Y_loadS Try.underlying32 rfl sz32 rfl (B5.row (by rfl))) ?_  -- l9
   refine S_stM (pre := []) (old := [_, _]) (post := []) (vs := [_, _]) sz32 rfl rfl rfl (by first | rfl | assumption) B2 rfl rfl ?_
   intro w30 m30 X30
   replace B2 := Blk.eq (ys := [_, _]) X30 rfl
   clear X30
   replace G := G.abv m30
   replace hAl := hAl0.grow G
   replace hBl := hBl0.grow G
   replace OX := OX.md m30
   replace OC1 := OC1.md m30
   replace OR1 := OR1.md m30
   replace B1 := B1.md m30
   replace B5 := B5.md m30
   have zm30 := m30.size
   refine S_nl rfl rfl ?_
   refine th_n (hK8 _ _ ?_)
   clear hK8 K8
   refine wp_ret ?_
   refine ret_rc (cs := [_, _]) Try.underlying32 rfl sz32 rfl rfl (B2.row (by rfl)) ?_  -- r1
   rw [List.take_of_length_le (by omega)] at hlk OC1 OR1
   rw [hq1, ← hlk] at OC1
   exact ⟨_, _, _, _, _, _, rs, rfl, by omega, rfl, OH.of_parts (h := h) (OC.grown OC1 OR1 (fun _ h => h) (fun _ h => h)) OX.oi (fun k b h1 h2 h3 => by omega) (fun k hk => by omega) (fun k hk => by omega), G⟩
end
/-! WalkN -/
section
open Go Go.RowKit
attribute [local irreducible] wpList wpAnyH Code.wp dOp
set_option maxHeartbeats 400000 in
set_option maxRecDepth 20000 in
theorem spec_CommandValid_c (op a b c : Int) (w : World) :
    Calls Try.prog 125 #[.agg #[.int .i64 op, .int .i64 a, .int .i64 b, .int .i64 c]] w (Ret fun v w' => v = .bool (cvB ⟨op, a, b, c⟩) ∧ Grow w w') := by
 refine enter Try.func125 rfl Try.ntmps125 (L := [_,_,_,_,_,_,_,_,_,_,_,_,_,_,_,_,_,_,_,_,_,_,_,_,_,_,_,_,_,_,_,_,_,_,_,_,_,_,_,_,_,_,_,_,_,_,_,_,_,_,_,_,_,_,_,_,_,_,_,_,_,_,_,_,_,_,_,_,_,_,_,_,_,_,_]) rfl ?_
 have G := Mod.refl No w
 refine wp_seq_k fun K1 hK1 => ?_
 refine Sb 75 rfl ?_  -- 0
 refine S_box (cs := [_, _, _, _]) rfl rfl ?_
 intro b1 w1 fb1 g1 B1
 have lb1 := B1.lt
 replace G := G.grow g1
 have zg1 := g1.size
 refine S_val (Y_assign rfl) ?_
 refine S_nl rfl rfl ?_
 refine th_n (hK1 _ _ ?_)
 clear hK1 K1
 refine wp_seq_k fun K2 hK2 => ?_
 refine Sb 75 rfl ?_  -- 1
 refine S_val (Y_field Try.underlying133 rfl fz133_1 (by decide) rfl) ?_
 refine S_val (Y_load Try.underlying3 rfl rfl (B1.at (by rfl))) ?_  -- l1
 refine S_call rfl en52 (spec_l1In_c _ _ _ _) ?_  -- k1 spec.l1In
 rintro v w' ⟨rfl, rfl⟩
 refine S_val (Y_assign rfl) ?_
 refine S_nl rfl rfl ?_
 refine th_n (hK2 _ _ ?_)
 clear hK2 K2
 refine wp_seq_k fun K3 hK3 => ?_
 refine Sb 75 rfl ?_  -- 2
 refine S_val (Y_field Try.underlying133 rfl fz133_2 (by decide) rfl) ?_
 refine S_val (Y_load Try.underlying3 rfl rfl (B1.at (by rfl))) ?_  -- l2
 refine S_call rfl en52 (spec_l1In_c _ _ _ _) ?_  -- k2 spec.l1In
 rintro v w' ⟨rfl, rfl⟩
 refine S_val (Y_assign rfl) ?_
 refine S_nl rfl rfl ?_
 refine th_n (hK3 _ _ ?_)
 clear hK3 K3
 refine wp_seq_k fun K4 hK4 => ?_
 refine wp_seq_k fun K5 hK5 => ?_
 refine Sb 75 rfl ?_  -- 3
 refine S_val (Y_field Try.underlying133 rfl fz133_0 (by decide) rfl) ?_
 refine S_val (Y_load Try.underlying3 rfl rfl (B1.at (by rfl))) ?_  -- l3
 refine S_nl rfl rfl ?_
 refine th_n (hK5 _ _ ?_)
 clear hK5 K5
 refine wp_block ?_
 refine wp_seq_k fun K6 hK6 => ?_
 refine Sb 75 rfl ?_  -- 4
 refine S_val (Y_eql rfl rfl) ?_
 refine S_val (Y_assign rfl) ?_
 refine S_nl rfl rfl ?_
 refine th_n (hK6 _ _ ?_)
 clear hK6 K6
 refine S_if rfl (fun hb1 => ?_) (fun hb1 => ?_)  -- c1
 · -- c1T
  replace hb1 := nb_tt hb1
  refine wp_seq_k fun K7 hK7 => ?_
  refine Sb 75 rfl ?_  -- 5
  refine S_val (Y_move rfl) ?_
  refine S_val (Y_move rfl) ?_
  refine S_g 16 rfl (fun hb2 => ?_) (fun hb2 => ?_)  -- g1
  · -- g1T
   first | with_reducible (replace hb2 := nb_nt hb2) | with_reducible (replace hb2 := nb_tt hb2) | with_reducible (replace hb2 := nb_bt hb2) | skip
   refine S_on rfl rfl ?_
   refine S_val (Y_field Try.underlying133 rfl fz133_2 (by decide) rfl) ?_
   refine S_on rfl rfl ?_
   refine S_val (Y_load Try.underlying3 rfl rfl (B1.at (by rfl))) ?_  -- l4
   refine S_on rfl rfl ?_
   refine S_call rfl en52 (spec_l1In_c _ _ _ _) ?_  -- k3 spec.l1In
   rintro v w' ⟨rfl, rfl⟩
   refine S_val (Y_pickT rfl rfl) ?_
   refine S_val (Y_move rfl) ?_
   refine S_g 21 rfl (fun hb3 => ?_) (fun hb3 => ?_)  -- g2
   · -- g2T
    first | with_reducible (replace hb3 := nb_nt hb3) | with_reducible (replace hb3 := nb_tt hb3) | with_reducible (replace hb3 := nb_bt hb3) | skip
    refine S_on rfl rfl ?_
    refine S_val (Y_field Try.underlying133 rfl fz133_3 (by decide) rfl) ?_
    refine S_on rfl rfl ?_
    refine S_val (Y_load Try.underlying3 rfl rfl (B1.at (by rfl))) ?_  -- l5
    refine S_on rfl rfl ?_
    refine S_call rfl en52 (spec_l1In_c _ _ _ _) ?_  -- k4 spec.l1In
    rintro v w' ⟨rfl, rfl⟩
    refine S_val (Y_pickT rfl rfl) ?_
    refine S_val (Y_assign rfl) ?_
    refine S_nl rfl rfl ?_
    refine th_n (hK7 _ _ ?_)
    clear hK7 K7
    refine wp_ret ?_
    refine ib_r ?_
    refine th_r ?_
    clear hK4 K4
    refine ret_r1 rfl rfl ?_  -- r1
    exact ⟨by first | exact cvB_f (by unfold cvP; dsimp only; omega) | exact cvB_d (by unfold cvP; dsimp only; omega) | exact cvB_t (by unfold cvP; dsimp only; omega), G⟩
   · -- g2F
    first | with_reducible (replace hb3 := nb_nf hb3) | with_reducible (replace hb3 := nb_tf hb3) | with_reducible (replace hb3 := nb_bf hb3) | skip
    refine S_off rfl rfl ?_
    refine S_off rfl rfl ?_
    refine S_off rfl rfl ?_
    refine S_val (Y_pickF rfl rfl) ?_
    refine S_val (Y_assign rfl) ?_
    refine S_nl rfl rfl ?_
    refine th_n (hK7 _ _ ?_)
    clear hK7 K7
    refine wp_ret ?_
    refine ib_r ?_
    refine th_r ?_
    clear hK4 K4
    refine ret_r1 rfl rfl ?_  -- r2
    exact ⟨by first | exact cvB_f (by unfold cvP; dsimp only; omega) | exact cvB_d (by unfold cvP; dsimp only; omega) | exact cvB_t (by unfold cvP; dsimp only; omega), G⟩
  · -- g1F
   first | with_reducible (replace hb2 := nb_nf hb2) | with_reducible (replace hb2 := nb_tf hb2) | with_reducible (replace hb2 := nb_bf hb2) | skip
   refine S_off rfl rfl ?_
   refine S_off rfl rfl ?_
   refine S_off rfl rfl ?_
   refine S_val (Y_pickF rfl rfl) ?_
   refine S_val (Y_move rfl) ?_
   refine S_off rfl rfl ?_
   refine S_off rfl rfl ?_
   refine S_off rfl rfl ?_
   refine S_val (Y_pickF rfl rfl) ?_
   refine S_val (Y_assign rfl) ?_
   refine S_nl rfl rfl ?_
   refine th_n (hK7 _ _ ?_)
   clear hK7 K7
   refine wp_ret ?_
   refine ib_r ?_
   refine th_r ?_
   clear hK4 K4
   refine ret_r1 rfl rfl ?_  -- r3
   exact ⟨by first | exact cvB_f (by unfold cvP; dsimp only; omega) | exact cvB_d (by unfold cvP; dsimp only; omega) | exact cvB_t (by unfold cvP; dsimp only; omega), G⟩
 · -- c1F
  replace hb1 := nb_tf hb1
  refine wp_seq_k fun K8 hK8 => ?_
  refine wp_seq_k fun K9 hK9 => ?_
  refine Sb 75 rfl ?_  -- 6
  refine S_val (Y_eql rfl rfl) ?_
  refine S_val (Y_assign rfl) ?_
  refine S_nl rfl rfl ?_
  refine th_n (hK9 _ _ ?_)
  clear hK9 K9
  refine S_if rfl (fun hb2 => ?_) (fun hb2 => ?_)  -- c2
  · -- c2T
   replace hb2 := nb_tt hb2
   refine wp_skip ?_
   refine th_n (hK8 _ _ ?_)
   clear hK8 K8
   refine S_if rfl (fun hb3 => ?_) (fun hb3 => ?_)  -- c3
   · -- c3T
    replace hb3 := nb_tt hb3
    refine wp_seq_k fun K10 hK10 => ?_
    refine Sb 75 rfl ?_  -- 8
    refine S_val (Y_move rfl) ?_
    refine S_val (Y_move rfl) ?_
    refine S_g 30 rfl (fun hb4 => ?_) (fun hb4 => ?_)  -- g3
    · -- g3T
     first | with_reducible (replace hb4 := nb_nt hb4) | with_reducible (replace hb4 := nb_tt hb4) | with_reducible (replace hb4 := nb_bt hb4) | skip
     refine S_on rfl rfl ?_
     refine S_val (Y_move rfl) ?_
     refine S_val (Y_pickT rfl rfl) ?_
     refine S_val (Y_move rfl) ?_
     refine S_g 33 rfl (fun hb5 => ?_) (fun hb5 => ?_)  -- g4
     · -- g4T
      first | with_reducible (replace hb5 := nb_nt hb5) | with_reducible (replace hb5 := nb_tt hb5) | with_reducible (replace hb5 := nb_bt hb5) | skip
      refine S_on rfl rfl ?_
      refine S_val (Y_field Try.underlying133 rfl fz133_3 (by decide) rfl) ?_
      refine S_on rfl rfl ?_
      refine S_val (Y_load Try.underlying3 rfl rfl (B1.at (by rfl))) ?_  -- l6
      refine S_on rfl rfl ?_
      refine S_call rfl en52 (spec_l1In_c _ _ _ _) ?_  -- k5 spec.l1In
      rintro v w' ⟨rfl, rfl⟩
      refine S_val (Y_pickT rfl rfl) ?_
      refine S_val (Y_assign rfl) ?_
      refine S_nl rfl rfl ?_
      refine th_n (hK10 _ _ ?_)
      clear hK10 K10
      refine wp_ret ?_
      refine ib_r ?_
      refine th_r ?_
      clear hK4 K4
      refine ret_r1 rfl rfl ?_  -- r4
      exact ⟨by first | exact cvB_f (by unfold cvP; dsimp only; omega) | exact cvB_d (by unfold cvP; dsimp only; omega) | exact cvB_t (by unfold cvP; dsimp only; omega), G⟩
     · -- g4F
      first | with_reducible (replace hb5 := nb_nf hb5) | with_reducible (replace hb5 := nb_tf hb5) | with_reducible (replace hb5 := nb_bf hb5) | skip
      refine S_off rfl rfl ?_
      refine S_off rfl rfl ?_
      refine S_off rfl rfl ?_
      refine S_val (Y_pickF rfl rfl) ?_
      refine S_val (Y_assign rfl) ?_
      refine S_nl rfl rfl ?_
      refine th_n (hK10 _ _ ?_)
      clear hK10 K10
      refine wp_ret ?_
      refine ib_r ?_
      refine th_r ?_
      clear hK4 K4
      refine ret_r1 rfl rfl ?_  -- r5
      exact ⟨by first | exact cvB_f (by unfold cvP; dsimp only; omega) | exact cvB_d (by unfold cvP; dsimp only; omega) | exact cvB_t (by unfold cvP; dsimp only; omega), G⟩
    · -- g3F
     first | with_reducible (replace hb4 := nb_nf hb4) | with_reducible (replace hb4 := nb_tf hb4) | with_reducible (replace hb4 := nb_bf hb4) | skip
     refine S_off rfl rfl ?_
     refine S_val (Y_pickF rfl rfl) ?_
     refine S_val (Y_move rfl) ?_
     refine S_off rfl rfl ?_
     refine S_off rfl rfl ?_
     refine S_off rfl rfl ?_
     refine S_val (Y_pickF rfl rfl) ?_
     refine S_val (Y_assign rfl) ?_
     refine S_nl rfl rfl ?_
     refine th_n (hK10 _ _ ?_)
     clear hK10 K10
     refine wp_ret ?_
     refine ib_r ?_
     refine th_r ?_
     clear hK4 K4
     refine ret_r1 rfl rfl ?_  -- r6
     exact ⟨by first | exact cvB_f (by unfold cvP; dsimp only; omega) | exact cvB_d (by unfold cvP; dsimp only; omega) | exact cvB_t (by unfold cvP; dsimp only; omega), G⟩
   · -- c3F
    replace hb3 := nb_tf hb3
    refine wp_seq_k fun K11 hK11 => ?_
    refine Sb 75 rfl ?_  -- 9
    refine S_val (Y_eql rfl rfl) ?_
    refine S_val (Y_assign rfl) ?_
    refine S_nl rfl rfl ?_
    refine th_n (hK11 _ _ ?_)
    clear hK11 K11
    refine S_if rfl (fun hb4 => ?_) (fun hb4 => ?_)  -- c4
    · -- c4T
     replace hb4 := nb_tt hb4
     refine wp_seq_k fun K12 hK12 => ?_
     refine Sb 75 rfl ?_  -- 10
     refine S_val (Y_move rfl) ?_
     refine S_val (Y_move rfl) ?_
     refine S_g 41 rfl (fun hb5 => ?_) (fun hb5 => ?_)  -- g5
     · -- g5T
      first | with_reducible (replace hb5 := nb_nt hb5) | with_reducible (replace hb5 := nb_tt hb5) | with_reducible (replace hb5 := nb_bt hb5) | skip
      refine S_on rfl rfl ?_
      refine S_val (Y_move rfl) ?_
      refine S_val (Y_pickT rfl rfl) ?_
      refine S_val (Y_move rfl) ?_
      refine S_g 44 rfl (fun hb6 => ?_) (fun hb6 => ?_)  -- g6
      · -- g6T
       first | with_reducible (replace hb6 := nb_nt hb6) | with_reducible (replace hb6 := nb_tt hb6) | with_reducible (replace hb6 := nb_bt hb6) | skip
       refine S_on rfl rfl ?_
       refine S_val (Y_field Try.underlying133 rfl fz133_3 (by decide) rfl) ?_
       refine S_on rfl rfl ?_
       refine S_val (Y_load Try.underlying3 rfl rfl (B1.at (by rfl))) ?_  -- l7
       refine S_on rfl rfl ?_
       refine S_val (Y_eql rfl rfl) ?_
       refine S_val (Y_pickT rfl rfl) ?_
       refine S_val (Y_assign rfl) ?_
       refine S_nl rfl rfl ?_
       refine th_n (hK12 _ _ ?_)
       clear hK12 K12
       refine wp_ret ?_
       refine ib_r ?_
       refine th_r ?_
       clear hK4 K4
       refine ret_r1 rfl rfl ?_  -- r7
       exact ⟨by first | exact cvB_f (by unfold cvP; dsimp only; omega) | exact cvB_d (by unfold cvP; dsimp only; omega) | exact cvB_t (by unfold cvP; dsimp only; omega), G⟩
      · -- g6F
       first | with_reducible (replace hb6 := nb_nf hb6) | with_reducible (replace hb6 := nb_tf hb6) | with_reducible (replace hb6 := nb_bf hb6) | skip
       refine S_off rfl rfl ?_
       refine S_off rfl rfl ?_
       refine S_off rfl rfl ?_
       refine S_val (Y_pickF rfl rfl) ?_
       refine S_val (Y_assign rfl) ?_
       refine S_nl rfl rfl ?_
       refine th_n (hK12 _ _ ?_)
       clear hK12 K12
       refine wp_ret ?_
       refine ib_r ?_
       refine th_r ?_
       clear hK4 K4
       refine ret_r1 rfl rfl ?_  -- r8
       exact ⟨by first | exact cvB_f (by unfold cvP; dsimp only; omega) | exact cvB_d (by unfold cvP; dsimp only; omega) | exact cvB_t (by unfold cvP; dsimp only; omega), G⟩
     · -- g5F
      first | with_reducible (replace hb5 := nb_nf hb5) | with_reducible (replace hb5 := nb_tf hb5) | with_reducible (replace hb5 := nb_bf hb5) | skip
      refine S_off rfl rfl ?_
      refine S_val (Y_pickF rfl rfl) ?_
      refine S_val (Y_move rfl) ?_
      refine S_off rfl rfl ?_
      refine S_off rfl rfl ?_
      refine S_off rfl rfl ?_
      refine S_val (Y_pickF rfl rfl) ?_
      refine S_val (Y_assign rfl) ?_
      refine S_nl rfl rfl ?_
      refine th_n (hK12 _ _ ?_)
      clear hK12 K12
      refine wp_ret ?_
      refine ib_r ?_
      refine th_r ?_
      clear hK4 K4
      refine ret_r1 rfl rfl ?_  -- r9
      exact ⟨by first | exact cvB_f (by unfold cvP; dsimp only; omega) | exact cvB_d (by unfold cvP; dsimp only; omega) | exact cvB_t (by unfold cvP; dsimp only; omega), G⟩
    · -- c4F
     replace hb4 := nb_tf hb4
     refine wp_seq_k fun K13 hK13 => ?_
     refine Sb 75 rfl ?_  -- 11
     refine S_val (Y_eql rfl rfl) ?_
     refine S_val (Y_assign rfl) ?_
     refine S_nl rfl rfl ?_
     refine th_n (hK13 _ _ ?_)
     clear hK13 K13
     refine S_if rfl (fun hb5 => ?_) (fun hb5 => ?_)  -- c5
     · -- c5T
      replace hb5 := nb_tt hb5
      refine wp_seq_k fun K14 hK14 => ?_
      refine Sb 75 rfl ?_  -- 12
      refine S_val (Y_move rfl) ?_
      refine S_val (Y_move rfl) ?_
      refine S_g 52 rfl (fun hb6 => ?_) (fun hb6 => ?_)  -- g7
      · -- g7T
       first | with_reducible (replace hb6 := nb_nt hb6) | with_reducible (replace hb6 := nb_tt hb6) | with_reducible (replace hb6 := nb_bt hb6) | skip
       refine S_on rfl rfl ?_
       refine S_val (Y_field Try.underlying133 rfl fz133_2 (by decide) rfl) ?_
       refine S_on rfl rfl ?_
       refine S_val (Y_load Try.underlying3 rfl rfl (B1.at (by rfl))) ?_  -- l8
       refine S_on rfl rfl ?_
       refine S_val (Y_eql rfl rfl) ?_
       refine S_val (Y_pickT rfl rfl) ?_
       refine S_val (Y_move rfl) ?_
       refine S_g 57 rfl (fun hb7 => ?_) (fun hb7 => ?_)  -- g8
       · -- g8T
        first | with_reducible (replace hb7 := nb_nt hb7) | with_reducible (replace hb7 := nb_tt hb7) | with_reducible (replace hb7 := nb_bt hb7) | skip
        refine S_on rfl rfl ?_
        refine S_val (Y_field Try.underlying133 rfl fz133_3 (by decide) rfl) ?_
        refine S_on rfl rfl ?_
        refine S_val (Y_load Try.underlying3 rfl rfl (B1.at (by rfl))) ?_  -- l9
        refine S_on rfl rfl ?_
        refine S_val (Y_eql rfl rfl) ?_
        refine S_val (Y_pickT rfl rfl) ?_
        refine S_val (Y_assign rfl) ?_
        refine S_nl rfl rfl ?_
        refine th_n (hK14 _ _ ?_)
        clear hK14 K14
        refine wp_ret ?_
        refine ib_r ?_
        refine th_r ?_
        clear hK4 K4
        refine ret_r1 rfl rfl ?_  -- r10
        exact ⟨by first | exact cvB_f (by unfold cvP; dsimp only; omega) | exact cvB_d (by unfold cvP; dsimp only; omega) | exact cvB_t (by unfold cvP; dsimp only; omega), G⟩
       · -- g8F
        first | with_reducible (replace hb7 := nb_nf hb7) | with_reducible (replace hb7 := nb_tf hb7) | with_reducible (replace hb7 := nb_bf hb7) | skip
        refine S_off rfl rfl ?_
        refine S_off rfl rfl ?_
        refine S_off rfl rfl ?_
        refine S_val (Y_pickF rfl rfl) ?_
        refine S_val (Y_assign rfl) ?_
        refine S_nl rfl rfl ?_
        refine th_n (hK14 _ _ ?_)
        clear hK14 K14
        refine wp_ret ?_
        refine ib_r ?_
        refine th_r ?_
        clear hK4 K4
        refine ret_r1 rfl rfl ?_  -- r11
        exact ⟨by first | exact cvB_f (by unfold cvP; dsimp only; omega) | exact cvB_d (by unfold cvP; dsimp only; omega) | exact cvB_t (by unfold cvP; dsimp only; omega), G⟩
      · -- g7F
       first | with_reducible (replace hb6 := nb_nf hb6) | with_reducible (replace hb6 := nb_tf hb6) | with_reducible (replace hb6 := nb_bf hb6) | skip
       refine S_off rfl rfl ?_
       refine S_off rfl rfl ?_
       refine S_off rfl rfl ?_
       refine S_val (Y_pickF rfl rfl) ?_
       refine S_val (Y_move rfl) ?_
       refine S_off rfl rfl ?_
       refine S_off rfl rfl ?_
       refine S_off rfl rfl ?_
       refine S_val (Y_pickF rfl rfl) ?_
       refine S_val (Y_assign rfl) ?_
       refine S_nl rfl rfl ?_
       refine th_n (hK14 _ _ ?_)
       clear hK14 K14
       refine wp_ret ?_
       refine ib_r ?_
       refine th_r ?_
       clear hK4 K4
       refine ret_r1 rfl rfl ?_  -- r12
       exact ⟨by first | exact cvB_f (by unfold cvP; dsimp only; omega) | exact cvB_d (by unfold cvP; dsimp only; omega) | exact cvB_t (by unfold cvP; dsimp only; omega), G⟩
     · -- c5F
      replace hb5 := nb_tf hb5
      refine wp_seq_k fun K15 hK15 => ?_
      refine Sb 75 rfl ?_  -- 13
      refine S_val (Y_eql rfl rfl) ?_
      refine S_val (Y_assign rfl) ?_
      refine S_nl rfl rfl ?_
      refine th_n (hK15 _ _ ?_)
      clear hK15 K15
      refine S_if rfl (fun hb6 => ?_) (fun hb6 => ?_)  -- c6
      · -- c6T
       replace hb6 := nb_tt hb6
       refine wp_seq_k fun K16 hK16 => ?_
       refine Sb 75 rfl ?_  -- 14
       refine S_val (Y_move rfl) ?_
       refine S_val (Y_move rfl) ?_
       refine S_g 65 rfl (fun hb7 => ?_) (fun hb7 => ?_)  -- g9
       · -- g9T
        first | with_reducible (replace hb7 := nb_nt hb7) | with_reducible (replace hb7 := nb_tt hb7) | with_reducible (replace hb7 := nb_bt hb7) | skip
        refine S_on rfl rfl ?_
        refine S_val (Y_field Try.underlying133 rfl fz133_2 (by decide) rfl) ?_
        refine S_on rfl rfl ?_
        refine S_val (Y_load Try.underlying3 rfl rfl (B1.at (by rfl))) ?_  -- l10
        refine S_on rfl rfl ?_
        refine S_call rfl en52 (spec_l1In_c _ _ _ _) ?_  -- k6 spec.l1In
        rintro v w' ⟨rfl, rfl⟩
        refine S_val (Y_pickT rfl rfl) ?_
        refine S_val (Y_move rfl) ?_
        refine S_g 70 rfl (fun hb8 => ?_) (fun hb8 => ?_)  -- g10
        · -- g10T
         first | with_reducible (replace hb8 := nb_nt hb8) | with_reducible (replace hb8 := nb_tt hb8) | with_reducible (replace hb8 := nb_bt hb8) | skip
         refine S_on rfl rfl ?_
         refine S_val (Y_field Try.underlying133 rfl fz133_3 (by decide) rfl) ?_
         refine S_on rfl rfl ?_
         refine S_val (Y_load Try.underlying3 rfl rfl (B1.at (by rfl))) ?_  -- l11
         refine S_on rfl rfl ?_
         refine S_val (Y_eql rfl rfl) ?_
         refine S_val (Y_pickT rfl rfl) ?_
         refine S_val (Y_assign rfl) ?_
         refine S_nl rfl rfl ?_
         refine th_n (hK16 _ _ ?_)
         clear hK16 K16
         refine wp_ret ?_
         refine ib_r ?_
         refine th_r ?_
         clear hK4 K4
         refine ret_r1 rfl rfl ?_  -- r13
         exact ⟨by first | exact cvB_f (by unfold cvP; dsimp only; omega) | exact cvB_d (by unfold cvP; dsimp only; omega) | exact cvB_t (by unfold cvP; dsimp only; omega), G⟩
        · -- g10F
         first | with_reducible (replace hb8 := nb_nf hb8) | with_reducible (replace hb8 := nb_tf hb8) | with_reducible (replace hb8 := nb_bf hb8) | skip
         refine S_off rfl rfl ?_
         refine S_off rfl rfl ?_
         refine S_off rfl rfl ?_
         refine S_val (Y_pickF rfl rfl) ?_
         refine S_val (Y_assign rfl) ?_
         refine S_nl rfl rfl ?_
         refine th_n (hK16 _ _ ?_)
         clear hK16 K16
         refine wp_ret ?_
         refine ib_r ?_
         refine th_r ?_
         clear hK4 K4
         refine ret_r1 rfl rfl ?_  -- r14
         exact ⟨by first | exact cvB_f (by unfold cvP; dsimp only; omega) | exact cvB_d (by unfold cvP; dsimp only; omega) | exact cvB_t (by unfold cvP; dsimp only; omega), G⟩
       · -- g9F
        first | with_reducible (replace hb7 := nb_nf hb7) | with_reducible (replace hb7 := nb_tf hb7) | with_reducible (replace hb7 := nb_bf hb7) | skip
        refine S_off rfl rfl ?_
        refine S_off rfl rfl ?_
        refine S_off rfl rfl ?_
        refine S_val (Y_pickF rfl rfl) ?_
        refine S_val (Y_move rfl) ?_
        refine S_off rfl rfl ?_
        refine S_off rfl rfl ?_
        refine S_off rfl rfl ?_
        refine S_val (Y_pickF rfl rfl) ?_
        refine S_val (Y_assign rfl) ?_
        refine S_nl rfl rfl ?_
        refine th_n (hK16 _ _ ?_)
        clear hK16 K16
        refine wp_ret ?_
        refine ib_r ?_
        refine th_r ?_
        clear hK4 K4
        refine ret_r1 rfl rfl ?_  -- r15
        exact ⟨by first | exact cvB_f (by unfold cvP; dsimp only; omega) | exact cvB_d (by unfold cvP; dsimp only; omega) | exact cvB_t (by unfold cvP; dsimp only; omega), G⟩
      · -- c6F
       replace hb6 := nb_tf hb6
       refine wp_skip ?_
       refine ib_n ?_
       refine th_n (hK4 _ _ ?_)
       clear hK4 K4
       refine wp_seq_k fun K17 hK17 => ?_
       refine Sb 75 rfl ?_  -- 15
       refine S_val (Y_assign rfl) ?_
       refine S_nl rfl rfl ?_
       refine th_n (hK17 _ _ ?_)
       clear hK17 K17
       refine wp_ret ?_
       refine ret_r1 rfl rfl ?_  -- r16
       exact ⟨by first | exact cvB_f (by unfold cvP; dsimp only; omega) | exact cvB_d (by unfold cvP; dsimp only; omega) | exact cvB_t (by unfold cvP; dsimp only; omega), G⟩
  · -- c2F
   replace hb2 := nb_tf hb2
   refine Sb 75 rfl ?_  -- 7
   refine S_val (Y_eql rfl rfl) ?_
   refine S_val (Y_assign rfl) ?_
   refine S_nl rfl rfl ?_
   refine th_n (hK8 _ _ ?_)
   clear hK8 K8
   refine S_if rfl (fun hb3 => ?_) (fun hb3 => ?_)  -- c7
   · -- c7T
    replace hb3 := nb_tt hb3
    refine wp_seq_k fun K18 hK18 => ?_
    refine Sb 75 rfl ?_  -- 8
    refine S_val (Y_move rfl) ?_
    refine S_val (Y_move rfl) ?_
    refine S_g 30 rfl (fun hb4 => ?_) (fun hb4 => ?_)  -- g11
    · -- g11T
     first | with_reducible (replace hb4 := nb_nt hb4) | with_reducible (replace hb4 := nb_tt hb4) | with_reducible (replace hb4 := nb_bt hb4) | skip
     refine S_on rfl rfl ?_
     refine S_val (Y_move rfl) ?_
     refine S_val (Y_pickT rfl rfl) ?_
     refine S_val (Y_move rfl) ?_
     refine S_g 33 rfl (fun hb5 => ?_) (fun hb5 => ?_)  -- g12
     · -- g12T
      first | with_reducible (replace hb5 := nb_nt hb5) | with_reducible (replace hb5 := nb_tt hb5) | with_reducible (replace hb5 := nb_bt hb5) | skip
      refine S_on rfl rfl ?_
      refine S_val (Y_field Try.underlying133 rfl fz133_3 (by decide) rfl) ?_
      refine S_on rfl rfl ?_
      refine S_val (Y_load Try.underlying3 rfl rfl (B1.at (by rfl))) ?_  -- l12
      refine S_on rfl rfl ?_
      refine S_call rfl en52 (spec_l1In_c _ _ _ _) ?_  -- k7 spec.l1In
      rintro v w' ⟨rfl, rfl⟩
      refine S_val (Y_pickT rfl rfl) ?_
      refine S_val (Y_assign rfl) ?_
      refine S_nl rfl rfl ?_
      refine th_n (hK18 _ _ ?_)
      clear hK18 K18
      refine wp_ret ?_
      refine ib_r ?_
      refine th_r ?_
      clear hK4 K4
      refine ret_r1 rfl rfl ?_  -- r17
      exact ⟨by first | exact cvB_f (by unfold cvP; dsimp only; omega) | exact cvB_d (by unfold cvP; dsimp only; omega) | exact cvB_t (by unfold cvP; dsimp only; omega), G⟩
     · -- g12F
      first | with_reducible (replace hb5 := nb_nf hb5) | with_reducible (replace hb5 := nb_tf hb5) | with_reducible (replace hb5 := nb_bf hb5) | skip
      refine S_off rfl rfl ?_
      refine S_off rfl rfl ?_
      refine S_off rfl rfl ?_
      refine S_val (Y_pickF rfl rfl) ?_
      refine S_val (Y_assign rfl) ?_
      refine S_nl rfl rfl ?_
      refine th_n (hK18 _ _ ?_)
      clear hK18 K18
      refine wp_ret ?_
      refine ib_r ?_
      refine th_r ?_
      clear hK4 K4
      refine ret_r1 rfl rfl ?_  -- r18
      exact ⟨by first | exact cvB_f (by unfold cvP; dsimp only; omega) | exact cvB_d (by unfold cvP; dsimp only; omega) | exact cvB_t (by unfold cvP; dsimp only; omega), G⟩
    · -- g11F
     first | with_reducible (replace hb4 := nb_nf hb4) | with_reducible (replace hb4 := nb_tf hb4) | with_reducible (replace hb4 := nb_bf hb4) | skip
     refine S_off rfl rfl ?_
     refine S_val (Y_pickF rfl rfl) ?_
     refine S_val (Y_move rfl) ?_
     refine S_off rfl rfl ?_
     refine S_off rfl rfl ?_
     refine S_off rfl rfl ?_
     refine S_val (Y_pickF rfl rfl) ?_
     refine S_val (Y_assign rfl) ?_
     refine S_nl rfl rfl ?_
     refine th_n (hK18 _ _ ?_)
     clear hK18 K18
     refine wp_ret ?_
     refine ib_r ?_
     refine th_r ?_
     clear hK4 K4
     refine ret_r1 rfl rfl ?_  -- r19
     exact ⟨by first | exact cvB_f (by unfold cvP; dsimp only; omega) | exact cvB_d (by unfold cvP; dsimp only; omega) | exact cvB_t (by unfold cvP; dsimp only; omega), G⟩
   · -- c7F
    replace hb3 := nb_tf hb3
    refine wp_seq_k fun K19 hK19 => ?_
    refine Sb 75 rfl ?_  -- 9
    refine S_val (Y_eql rfl rfl) ?_
    refine S_val (Y_assign rfl) ?_
    refine S_nl rfl rfl ?_
    refine th_n (hK19 _ _ ?_)
    clear hK19 K19
    refine S_if rfl (fun hb4 => ?_) (fun hb4 => ?_)  -- c8
    · -- c8T
     replace hb4 := nb_tt hb4
     refine wp_seq_k fun K20 hK20 => ?_
     refine Sb 75 rfl ?_  -- 10
     refine S_val (Y_move rfl) ?_
     refine S_val (Y_move rfl) ?_
     refine S_g 41 rfl (fun hb5 => ?_) (fun hb5 => ?_)  -- g13
     · -- g13T
      first | with_reducible (replace hb5 := nb_nt hb5) | with_reducible (replace hb5 := nb_tt hb5) | with_reducible (replace hb5 := nb_bt hb5) | skip
      refine S_on rfl rfl ?_
      refine S_val (Y_move rfl) ?_
      refine S_val (Y_pickT rfl rfl) ?_
      refine S_val (Y_move rfl) ?_
      refine S_g 44 rfl (fun hb6 => ?_) (fun hb6 => ?_)  -- g14
      · -- g14T
       first | with_reducible (replace hb6 := nb_nt hb6) | with_reducible (replace hb6 := nb_tt hb6) | with_reducible (replace hb6 := nb_bt hb6) | skip
       refine S_on rfl rfl ?_
       refine S_val (Y_field Try.underlying133 rfl fz133_3 (by decide) rfl) ?_
       refine S_on rfl rfl ?_
       refine S_val (Y_load Try.underlying3 rfl rfl (B1.at (by rfl))) ?_  -- l13
       refine S_on rfl rfl ?_
       refine S_val (Y_eql rfl rfl) ?_
       refine S_val (Y_pickT rfl rfl) ?_
       refine S_val (Y_assign rfl) ?_
       refine S_nl rfl rfl ?_
       refine th_n (hK20 _ _ ?_)
       clear hK20 K20
       refine wp_ret ?_
       refine ib_r ?_
       refine th_r ?_
       clear hK4 K4
       refine ret_r1 rfl rfl ?_  -- r20
       exact ⟨by first | exact cvB_f (by unfold cvP; dsimp only; omega) | exact cvB_d (by unfold cvP; dsimp only; omega) | exact cvB_t (by unfold cvP; dsimp only; omega), G⟩
      · -- g14F
       first | with_reducible (replace hb6 := nb_nf hb6) | with_reducible (replace hb6 := nb_tf hb6) | with_reducible (replace hb6 := nb_bf hb6) | skip
       refine S_off rfl rfl ?_
       refine S_off rfl rfl ?_
       refine S_off rfl rfl ?_
       refine S_val (Y_pickF rfl rfl) ?_
       refine S_val (Y_assign rfl) ?_
       refine S_nl rfl rfl ?_
       refine th_n (hK20 _ _ ?_)
       clear hK20 K20
       refine wp_ret ?_
       refine ib_r ?_
       refine th_r ?_
       clear hK4 K4
       refine ret_r1 rfl rfl ?_  -- r21
       exact ⟨by first | exact cvB_f (by unfold cvP; dsimp only; omega) | exact cvB_d (by unfold cvP; dsimp only; omega) | exact cvB_t (by unfold cvP; dsimp only; omega), G⟩
     · -- g13F
      first | with_reducible (replace hb5 := nb_nf hb5) | with_reducible (replace hb5 := nb_tf hb5) | with_reducible (replace hb5 := nb_bf hb5) | skip
      refine S_off rfl rfl ?_
      refine S_val (Y_pickF rfl rfl) ?_
      refine S_val (Y_move rfl) ?_
      refine S_off rfl rfl ?_
      refine S_off rfl rfl ?_
      refine S_off rfl rfl ?_
      refine S_val (Y_pickF rfl rfl) ?_
      refine S_val (Y_assign rfl) ?_
      refine S_nl rfl rfl ?_
      refine th_n (hK20 _ _ ?_)
      clear hK20 K20
      refine wp_ret ?_
      refine ib_r ?_
      refine th_r ?_
      clear hK4 K4
      refine ret_r1 rfl rfl ?_  -- r22
      exact ⟨by first | exact cvB_f (by unfold cvP; dsimp only; omega) | exact cvB_d (by unfold cvP; dsimp only; omega) | exact cvB_t (by unfold cvP; dsimp only; omega), G⟩
    · -- c8F
     replace hb4 := nb_tf hb4
     refine wp_seq_k fun K21 hK21 => ?_
     refine Sb 75 rfl ?_  -- 11
     refine S_val (Y_eql rfl rfl) ?_
     refine S_val (Y_assign rfl) ?_
     refine S_nl rfl rfl ?_
     refine th_n (hK21 _ _ ?_)
     clear hK21 K21
     refine S_if rfl (fun hb5 => ?_) (fun hb5 => ?_)  -- c9
     · -- c9T
      replace hb5 := nb_tt hb5
      refine wp_seq_k fun K22 hK22 => ?_
      refine Sb 75 rfl ?_  -- 12
      refine S_val (Y_move rfl) ?_
      refine S_val (Y_move rfl) ?_
      refine S_g 52 rfl (fun hb6 => ?_) (fun hb6 => ?_)  -- g15
      · -- g15T
       first | with_reducible (replace hb6 := nb_nt hb6) | with_reducible (replace hb6 := nb_tt hb6) | with_reducible (replace hb6 := nb_bt hb6) | skip
       refine S_on rfl rfl ?_
       refine S_val (Y_field Try.underlying133 rfl fz133_2 (by decide) rfl) ?_
       refine S_on rfl rfl ?_
       refine S_val (Y_load Try.underlying3 rfl rfl (B1.at (by rfl))) ?_  -- l14
       refine S_on rfl rfl ?_
       refine S_val (Y_eql rfl rfl) ?_
       refine S_val (Y_pickT rfl rfl) ?_
       refine S_val (Y_move rfl) ?_
       refine S_g 57 rfl (fun hb7 => ?_) (fun hb7 => ?_)  -- g16
       · -- g16T
        first | with_reducible (replace hb7 := nb_nt hb7) | with_reducible (replace hb7 := nb_tt hb7) | with_reducible (replace hb7 := nb_bt hb7) | skip
        refine S_on rfl rfl ?_
        refine S_val (Y_field Try.underlying133 rfl fz133_3 (by decide) rfl) ?_
        refine S_on rfl rfl ?_
        refine S_val (Y_load Try.underlying3 rfl rfl (B1.at (by rfl))) ?_  -- l15
        refine S_on rfl rfl ?_
        refine S_val (Y_eql rfl rfl) ?_
        refine S_val (Y_pickT rfl rfl) ?_
        refine S_val (Y_assign rfl) ?_
        refine S_nl rfl rfl ?_
        refine th_n (hK22 _ _ ?_)
        clear hK22 K22
        refine wp_ret ?_
        refine ib_r ?_
        refine th_r ?_
        clear hK4 K4
        refine ret_r1 rfl rfl ?_  -- r23
        exact ⟨by first | exact cvB_f (by unfold cvP; dsimp only; omega) | exact cvB_d (by unfold cvP; dsimp only; omega) | exact cvB_t (by unfold cvP; dsimp only; omega), G⟩
       · -- g16F
        first | with_reducible (replace hb7 := nb_nf hb7) | with_reducible (replace hb7 := nb_tf hb7) | with_reducible (replace hb7 := nb_bf hb7) | skip
        refine S_off rfl rfl ?_
        refine S_off rfl rfl ?_
        refine S_off rfl rfl ?_
        refine S_val (Y_pickF rfl rfl) ?_
        refine S_val (Y_assign rfl) ?_
        refine S_nl rfl rfl ?_
        refine th_n (hK22 _ _ ?_)
        clear hK22 K22
        refine wp_ret ?_
        refine ib_r ?_
        refine th_r ?_
        clear hK4 K4
        refine ret_r1 rfl rfl ?_  -- r24
        exact ⟨by first | exact cvB_f (by unfold cvP; dsimp only; omega) | exact cvB_d (by unfold cvP; dsimp only; omega) | exact cvB_t (by unfold cvP; dsimp only; omega), G⟩
      · -- g15F
       first | with_reducible (replace hb6 := nb_nf hb6) | with_reducible (replace hb6 := nb_tf hb6) | with_reducible (replace hb6 := nb_bf hb6) | skip
       refine S_off rfl rfl ?_
       refine S_off rfl rfl ?_
       refine S_off rfl rfl ?_
       refine S_val (Y_pickF rfl rfl) ?_
       refine S_val (Y_move rfl) ?_
       refine S_off rfl rfl ?_
       refine S_off rfl rfl ?_
       refine S_off rfl rfl ?_
       refine S_val (Y_pickF rfl rfl) ?_
       refine S_val (Y_assign rfl) ?_
       refine S_nl rfl rfl ?_
       refine th_n (hK22 _ _ ?_)
       clear hK22 K22
       refine wp_ret ?_
       refine ib_r ?_
       refine th_r ?_
       clear hK4 K4
       refine ret_r1 rfl rfl ?_  -- r25
       exact ⟨by first | exact cvB_f (by unfold cvP; dsimp only; omega) | exact cvB_d (by unfold cvP; dsimp only; omega) | exact cvB_t (by unfold cvP; dsimp only; omega), G⟩
     · -- c9F
      replace hb5 := nb_tf hb5
      refine wp_seq_k fun K23 hK23 => ?_
      refine Sb 75 rfl ?_  -- 13
      refine S_val (Y_eql rfl rfl) ?_
      refine S_val (Y_assign rfl) ?_
      refine S_nl rfl rfl ?_
      refine th_n (hK23 _ _ ?_)
      clear hK23 K23
      refine S_if rfl (fun hb6 => ?_) (fun hb6 => ?_)  -- c10
      · -- c10T
       replace hb6 := nb_tt hb6
       refine wp_seq_k fun K24 hK24 => ?_
       refine Sb 75 rfl ?_  -- 14
       refine S_val (Y_move rfl) ?_
       refine S_val (Y_move rfl) ?_
       refine S_g 65 rfl (fun hb7 => ?_) (fun hb7 => ?_)  -- g17
       · -- g17T
        first | with_reducible (replace hb7 := nb_nt hb7) | with_reducible (replace hb7 := nb_tt hb7) | with_reducible (replace hb7 := nb_bt hb7) | skip
        refine S_on rfl rfl ?_
        refine S_val (Y_field Try.underlying133 rfl fz133_2 (by decide) rfl) ?_
        refine S_on rfl rfl ?_
        refine S_val (Y_load Try.underlying3 rfl rfl (B1.at (by rfl))) ?_  -- l16
        refine S_on rfl rfl ?_
        refine S_call rfl en52 (spec_l1In_c _ _ _ _) ?_  -- k8 spec.l1In
        rintro v w' ⟨rfl, rfl⟩
        refine S_val (Y_pickT rfl rfl) ?_
        refine S_val (Y_move rfl) ?_
        refine S_g 70 rfl (fun hb8 => ?_) (fun hb8 => ?_)  -- g18
        · -- g18T
         first | with_reducible (replace hb8 := nb_nt hb8) | with_reducible (replace hb8 := nb_tt hb8) | with_reducible (replace hb8 := nb_bt hb8) | skip
         refine S_on rfl rfl ?_
         refine S_val (Y_field Try.underlying133 rfl fz133_3 (by decide) rfl) ?_
         refine S_on rfl rfl ?_
         refine S_val (Y_load Try.underlying3 rfl rfl (B1.at (by rfl))) ?_  -- l17
         refine S_on rfl rfl ?_
         refine S_val (Y_eql rfl rfl) ?_
         refine S_val (Y_pickT rfl rfl) ?_
         refine S_val (Y_assign rfl) ?_
         refine S_nl rfl rfl ?_
         refine th_n (hK24 _ _ ?_)
         clear hK24 K24
         refine wp_ret ?_
         refine ib_r ?_
         refine th_r ?_
         clear hK4 K4
         refine ret_r1 rfl rfl ?_  -- r26
         exact ⟨by first | exact cvB_f (by unfold cvP; dsimp only; omega) | exact cvB_d (by unfold cvP; dsimp only; omega) | exact cvB_t (by unfold cvP; dsimp only; omega), G⟩
        · -- g18F
         first | with_reducible (replace hb8 := nb_nf hb8) | with_reducible (replace hb8 := nb_tf hb8) | with_reducible (replace hb8 := nb_bf hb8) | skip
         refine S_off rfl rfl ?_
         refine S_off rfl rfl ?_
         refine S_off rfl rfl ?_
         refine S_val (Y_pickF rfl rfl) ?_
         refine S_val (Y_assign rfl) ?_
         refine S_nl rfl rfl ?_
         refine th_n (hK24 _ _ ?_)
         clear hK24 K24
         refine wp_ret ?_
         refine ib_r ?_
         refine th_r ?_
         clear hK4 K4
         refine ret_r1 rfl rfl ?_  -- r27
         exact ⟨by first | exact cvB_f (by unfold cvP; dsimp only; omega) | exact cvB_d (by unfold cvP; dsimp only; omega) | exact cvB_t (by unfold cvP; dsimp only; omega), G⟩
       · -- g17F
        first | with_reducible (replace hb7 := nb_nf hb7) | with_reducible (replace hb7 := nb_tf hb7) | with_reducible (replace hb7 := nb_bf hb7) | skip
        refine S_off rfl rfl ?_
        refine S_off rfl rfl ?_
        refine S_off rfl rfl ?_
        refine S_val (Y_pickF rfl rfl) ?_
        refine S_val (Y_move rfl) ?_
        refine S_off rfl rfl ?_
        refine S_off rfl rfl ?_
        refine S_off rfl rfl ?_
        refine S_val (Y_pickF rfl rfl) ?_
        refine S_val (Y_assign rfl) ?_
        refine S_nl rfl rfl ?_
        refine th_n (hK24 _ _ ?_)
        clear hK24 K24
        refine wp_ret ?_
        refine ib_r ?_
        refine th_r ?_
        clear hK4 K4
        refine ret_r1 rfl rfl ?_  -- r28
        exact ⟨by first | exact cvB_f (by unfold cvP; dsimp only; omega) | exact cvB_d (by unfold cvP; dsimp only; omega) | exact cvB_t (by unfold cvP; dsimp only; omega), G⟩
      · -- c10F
       replace hb6 := nb_tf hb6
       refine wp_skip ?_
       refine ib_n ?_
       refine th_n (hK4 _ _ ?_)
       clear hK4 K4
       refine wp_seq_k fun K25 hK25 => ?_
       refine Sb 75 rfl ?_  -- 15
       refine S_val (Y_assign rfl) ?_
       refine S_nl rfl rfl ?_
       refine th_n (hK25 _ _ ?_)
       clear hK25 K25
       refine wp_ret ?_
       refine ret_r1 rfl rfl ?_  -- r29
       exact ⟨by first | exact cvB_f (by unfold cvP; dsimp only; omega) | exact cvB_d (by unfold cvP; dsimp only; omega) | exact cvB_t (by unfold cvP; dsimp only; omega), G⟩
theorem csB_bad {l : List LCmd} {k : Nat} (hk : k < l.length) (h : cvB l[k] = false) : Value.bool false = .bool (csB l) := by
  have := all_false hk h
  simp [csB, this]
theorem csB_ok {l : List LCmd} (h : l.all cvB = true) : Value.bool (decide (l.length ≤ 40)) = .bool (csB l) := by
  unfold csB
  rw [h]
  simp
set_option maxHeartbeats 400000 in
set_option maxRecDepth 20000 in
theorem spec_CommandsValid_c (Pr : Nat → Prop) (A : Option Addr) (xs : List LCmd) (c : Nat) (w : World) (hA : RO Pr w A xs) (hx : xs.length ≤ 1048576) :
    Calls Try.prog 118 #[.slice A xs.length c] w (Ret fun v w' => v = .bool (csB xs) ∧ Grow w w') := by
 refine enter Try.func118 rfl Try.ntmps118 (L := [_,_,_,_,_,_,_,_,_,_,_,_,_,_,_,_,_,_,_]) rfl ?_
 have G := Mod.refl No w
 have hA0 := hA
 refine wp_seq_k fun K1 hK1 => ?_
 refine Sb 19 rfl ?_  -- 0
 refine S_val (Y_assign rfl) ?_
 refine S_nl rfl rfl ?_
 refine th_n (hK1 _ _ ?_)
 clear hK1 K1
 refine wp_seq_k fun K2 hK2 => ?_
 refine wp_seq_k fun K3 hK3 => ?_
 refine Sb 19 rfl ?_  -- 1
 refine S_val (Y_assign rfl) ?_
 refine S_nl rfl rfl ?_
 refine th_n (hK3 _ _ ?_)
 clear hK3 K3
 refine wp_block ?_
 go_loopw [3] (fun u3 wr => (∃ k : Nat, u3 = .int .i64 k ∧ k ≤ xs.length ∧ (xs.take k).all cvB = true) ∧ Mod No w wr) (fun u3 wr => xs.length - (intOf u3).toNat)  -- L1
 case atStart =>
  refine ⟨?_, Mod.refl _ _⟩
  exact ⟨0, rfl, by omega, by simp⟩
 case round =>
  obtain ⟨w1, rfl⟩ : ∃ x : World, x = wr := ⟨_, rfl⟩
  obtain ⟨hrel, g1⟩ := hrel
  replace hA := hA.grow g1
  replace G := G.grow g1
  have zg1 := g1.size
  obtain ⟨k, rfl, hk, hs⟩ := hrel
  have GL1 := g1
  refine wp_seq_k fun K4 hK4 => ?_
  refine wp_seq_k fun K5 hK5 => ?_
  refine Sb 19 rfl ?_  -- 2
  refine S_val (Y_move rfl) ?_
  refine S_val (Y_move rfl) ?_
  refine S_val (Y_len Try.underlying120 rfl) ?_
  refine S_val (Y_lss rfl rfl) ?_
  refine S_nl rfl rfl ?_
  refine th_n (hK5 _ _ ?_)
  clear hK5 K5
  refine S_if rfl (fun hb1 => ?_) (fun hb1 => ?_)  -- c1
  · -- c1T
   replace hb1 := nb_tt hb1
   have hk1 : k < xs.length := by omega
   obtain ⟨g2, o2, rfl, hp2, cc20⟩ := hA0.cell hk1
   have cc2 := cc20.grow G
   refine wp_skip ?_
   refine th_n (hK4 _ _ ?_)
   clear hK4 K4
   refine wp_seq_k fun K6 hK6 => ?_
   refine wp_block ?_
   refine wp_seq_k fun K7 hK7 => ?_
   refine Sb 19 rfl ?_  -- 4
   refine S_val (Y_move rfl) ?_
   refine S_val (Y_move rfl) ?_
   refine S_val (Y_index Try.underlying120 sz133 rfl rfl (by first | assumption | omega)) ?_
   refine S_val (Y_loadS Try.underlying133 rfl sz133 rfl (by first | assumption | skip)) ?_  -- l1
   refine S_call rfl en125 (spec_CommandValid_c _ _ _ _ _) ?_  -- k1 spec.CommandValid
   rintro v2 w2 ⟨rfl, g2⟩
   replace hA := hA.grow g2
   replace cc2 := cc2.grow g2
   replace G := G.grow g2
   replace GL1 := GL1.grow g2
   have zg2 := g2.size
   refine S_val (Y_not rfl) ?_
   refine S_nl rfl rfl ?_
   refine th_n (hK7 _ _ ?_)
   clear hK7 K7
   refine S_if rfl (fun hb2 => ?_) (fun hb2 => ?_)  -- c2
   · -- c2T
    first | with_reducible (replace hb2 := nb_nt hb2) | with_reducible (replace hb2 := nb_tt hb2) | with_reducible (replace hb2 := nb_bt hb2) | skip
    refine wp_seq_k fun K8 hK8 => ?_
    refine Sb 19 rfl ?_  -- 5
    refine S_val (Y_assign rfl) ?_
    refine S_nl rfl rfl ?_
    refine th_n (hK8 _ _ ?_)
    clear hK8 K8
    refine wp_ret ?_
    refine ib_r ?_
    refine th_r ?_
    try clear GL1
    refine th_r ?_
    refine ib_r ?_
    refine th_r ?_
    clear hK6 K6 hK2 K2
    refine ret_r1 rfl rfl ?_  -- r1
    exact ⟨csB_bad hk1 hb2, G⟩
   · -- c2F
    first | with_reducible (replace hb2 := nb_nf hb2) | with_reducible (replace hb2 := nb_tf hb2) | with_reducible (replace hb2 := nb_bf hb2) | skip
    refine wp_skip ?_
    refine ib_n ?_
    refine th_n (hK6 _ _ ?_)
    clear hK6 K6
    refine Sb 19 rfl ?_  -- 3
    refine S_val (Y_move rfl) ?_
    refine S_val (Y_inc rfl rfl (by omega)) ?_
    refine S_val (Y_assign rfl) ?_
    refine S_nl rfl rfl ?_
    refine th_n ?_
    go_roundw  -- e1 of L1
    case rel =>
     refine ⟨?_, GL1⟩
     exact ⟨k + 1, rfl, by omega, all_take_succ (by omega) hs hb2⟩
    case measure =>
     exact dec_nat (by omega)
  · -- c1F
   replace hb1 := nb_tf hb1
   refine wp_exit ?_
   refine th_x ?_
   try clear GL1
   refine th_x ?_
   refine ib_e ?_
   refine th_n (hK2 _ _ ?_)
   clear hK4 K4 hK2 K2
   refine wp_seq_k fun K9 hK9 => ?_
   refine Sb 19 rfl ?_  -- 6
   refine S_val (Y_move rfl) ?_
   refine S_val (Y_len Try.underlying120 rfl) ?_
   refine S_val (Y_leq rfl rfl) ?_
   refine S_val (Y_assign rfl) ?_
   refine S_nl rfl rfl ?_
   refine th_n (hK9 _ _ ?_)
   clear hK9 K9
   refine wp_ret ?_
   refine ret_r1 rfl rfl ?_  -- r2
   rw [← csB_ok (all_of_take (by omega) hs)]
   exact ⟨bI (by omega), G⟩
end
/-! WalkW -/
section
open Go Go.RowKit
attribute [local irreducible] wpList wpAnyH Code.wp dOp
set_option maxHeartbeats 400000 in
set_option maxRecDepth 20000 in
theorem spec_l8Place_c (Pr : Nat → Prop) (A B : Option Addr) (h : LH) (c d n : Nat) (r pc : Int) (w : World) (hA : RC Pr w A h.cells) (hB : R1 Pr w B (ints h.roots)) (hz : hsize h ≤ 1048576) (va : Valid h) (hn : n < h.roots.length) (hr : h.roots[n] = r) :
    Calls Try.prog 130 #[.agg #[.slice A h.cells.length c, .slice B h.roots.length d], .int .i64 r, .int .i64 pc] w (Ret fun v w' => v = .bool (placeB h (n : Int) pc) ∧ Grow w w') := by
 have hz1 := hsize_cells h
 have hz2 := hsize_roots h
 refine enter Try.func130 rfl Try.ntmps130 (L := [_,_,_,_,_,_,_,_,_,_,_,_,_,_,_,_,_,_,_,_]) rfl ?_
 have G := Mod.refl No w
 have hA0 := hA
 have hB0 := hB
 refine wp_seq_k fun K1 hK1 => ?_
 refine Sb 20 rfl ?_  -- 0
 refine S_box (cs := [_, _]) rfl rfl ?_
 intro b1 w1 fb1 g1 B1
 have lb1 := B1.lt
 replace hA := hA.grow g1
 replace hB := hB.grow g1
 replace G := G.grow g1
 have zg1 := g1.size
 refine S_val (Y_assign rfl) ?_
 refine S_nl rfl rfl ?_
 refine th_n (hK1 _ _ ?_)
 clear hK1 K1
 refine wp_seq_k fun K2 hK2 => ?_
 refine Sb 20 rfl ?_  -- 1
 refine S_val (Y_move rfl) ?_
 refine S_val (Y_geq rfl rfl) ?_
 refine S_val (Y_move rfl) ?_
 refine S_g 9 rfl (fun hb1 => ?_) (fun hb1 => ?_)  -- g1
 · -- g1T
  replace hb1 := nb_tt hb1
  obtain ⟨m, hm, hmN⟩ := valid_root va hn (by omega)
  obtain ⟨g2, o2, E2, d2, rfl, hp2, cc20, _⟩ := hA0.cell hmN
  have cc2 := cc20.grow G
  have hpl := placeB_pos (c := pc) hn hm hmN
  rw [hr] at hm
  subst hm
  refine S_on rfl rfl ?_
  refine S_val (Y_move rfl) ?_
  refine S_on rfl rfl ?_
  refine S_val (Y_field Try.underlying32 rfl fz32_0 (by decide) rfl) ?_
  refine S_on rfl rfl ?_
  refine S_val (Y_load Try.underlying30 rfl rfl (B1.at (by rfl))) ?_  -- l1
  refine S_on rfl rfl ?_
  refine S_val (Y_move rfl) ?_
  refine S_on rfl rfl ?_
  refine S_val (Y_index Try.underlying30 sz63 rfl rfl (by first | assumption | omega)) ?_
  refine S_on rfl rfl ?_
  refine S_val (Y_field Try.underlying63 rfl fz63_2 (by decide) rfl) ?_
  refine S_on rfl rfl ?_
  refine S_val (Y_load Try.underlying23 rfl rfl (by first | assumption | exact cc2.at (by rfl) | exact B1.at (by rfl))) ?_  -- l2
  refine S_on rfl rfl ?_
  refine S_val (Y_len Try.underlying23 rfl) ?_
  refine S_on rfl rfl ?_
  refine S_val (Y_lss rfl rfl) ?_
  refine S_val (Y_pickT rfl rfl) ?_
  refine S_val (Y_assign rfl) ?_
  refine S_nl rfl rfl ?_
  refine th_n (hK2 _ _ ?_)
  clear hK2 K2
  refine wp_ret ?_
  refine ret_r1 rfl rfl ?_  -- r1
  exact ⟨by rw [hpl], G⟩
 · -- g1F
  replace hb1 := nb_tf hb1
  refine S_off rfl rfl ?_
  refine S_off rfl rfl ?_
  refine S_off rfl rfl ?_
  refine S_off rfl rfl ?_
  refine S_off rfl rfl ?_
  refine S_off rfl rfl ?_
  refine S_off rfl rfl ?_
  refine S_off rfl rfl ?_
  refine S_off rfl rfl ?_
  refine S_val (Y_pickF rfl rfl) ?_
  refine S_val (Y_assign rfl) ?_
  refine S_nl rfl rfl ?_
  refine th_n (hK2 _ _ ?_)
  clear hK2 K2
  refine wp_ret ?_
  refine ret_r1 rfl rfl ?_  -- r2
  exact ⟨by rw [placeB_neg hn (by omega)], G⟩
set_option maxHeartbeats 400000 in
set_option maxRecDepth 20000 in
theorem spec_CommandPossible_c (Pr : Nat → Prop) (A B : Option Addr) (h : LH) (c d : Nat) (oop oa ob oc : Int) (w : World) (hA : RC Pr w A h.cells) (hB : R1 Pr w B (ints h.roots)) (hz : hsize h ≤ 1048576) :
    Calls Try.prog 126 #[.agg #[.slice A h.cells.length c, .slice B h.roots.length d], .agg #[.int .i64 oop, .int .i64 oa, .int .i64 ob, .int .i64 oc]] w (Ret fun v w' => v = .bool (possB h ⟨oop, oa, ob, oc⟩) ∧ Grow w w') := by
 have hz1 := hsize_cells h
 have hz2 := hsize_roots h
 refine enter Try.func126 rfl Try.ntmps126 (L := [_,_,_,_,_,_,_,_,_,_,_,_,_,_,_,_,_,_,_,_,_,_,_,_,_,_,_,_,_,_,_,_,_,_,_,_,_,_,_,_,_,_,_,_,_,_,_,_]) rfl ?_
 have G := Mod.refl No w
 have hA0 := hA
 have hB0 := hB
 refine wp_seq_k fun K1 hK1 => ?_
 refine Sb 48 rfl ?_  -- 0
 refine S_box (cs := [_, _]) rfl rfl ?_
 intro b1 w1 fb1 g1 B1
 have lb1 := B1.lt
 replace hA := hA.grow g1
 replace hB := hB.grow g1
 replace G := G.grow g1
 have zg1 := g1.size
 refine S_box (cs := [_, _, _, _]) rfl rfl ?_
 intro b2 w2 fb2 g2 B2
 have lb2 := B2.lt
 replace hA := hA.grow g2
 replace hB := hB.grow g2
 replace G := G.grow g2
 replace B1 := B1.grow g2
 have zg2 := g2.size
 refine S_val (Y_assign rfl) ?_
 refine S_nl rfl rfl ?_
 refine th_n (hK1 _ _ ?_)
 clear hK1 K1
 refine wp_seq_k fun K2 hK2 => ?_
 refine wp_seq_k fun K3 hK3 => ?_
 refine Sb 48 rfl ?_  -- 1
 refine S_val (Y_loadS Try.underlying32 rfl sz32 rfl (B1.row (by rfl))) ?_  -- l1
 refine S_call rfl en49 (spec_HeapValid_c _ _ _ _ _ _ _ (by assumption) (by assumption) (by omega)) ?_  -- k1 spec.HeapValid
 rintro v3 w3 ⟨rfl, g3⟩
 replace hA := hA.grow g3
 replace hB := hB.grow g3
 replace G := G.grow g3
 replace B1 := B1.grow g3
 replace B2 := B2.grow g3
 have zg3 := g3.size
 refine S_val (Y_not rfl) ?_
 refine S_val (Y_move rfl) ?_
 refine S_g 8 rfl (fun hb1 => ?_) (fun hb1 => ?_)  -- g1
 · -- g1T
  first | with_reducible (replace hb1 := nb_nt hb1) | with_reducible (replace hb1 := nb_tt hb1) | with_reducible (replace hb1 := nb_bt hb1) | skip
  refine S_off rfl rfl ?_
  refine S_off rfl rfl ?_
  refine S_off rfl rfl ?_
  refine S_val (Y_pickT rfl rfl) ?_
  refine S_nl rfl rfl ?_
  refine th_n (hK3 _ _ ?_)
  clear hK3 K3
  refine S_ifT rfl ?_
  refine wp_seq_k fun K4 hK4 => ?_
  refine Sb 48 rfl ?_  -- 2
  refine S_val (Y_assign rfl) ?_
  refine S_nl rfl rfl ?_
  refine th_n (hK4 _ _ ?_)
  clear hK4 K4
  refine wp_ret ?_
  refine th_r ?_
  clear hK2 K2
  refine ret_r1 rfl rfl ?_  -- r1
  exact ⟨by rw [possB_f1 hb1], G⟩
 · -- g1F
  first | with_reducible (replace hb1 := nb_nf hb1) | with_reducible (replace hb1 := nb_tf hb1) | with_reducible (replace hb1 := nb_bf hb1) | skip
  have va := valid_iff.1 hb1
  have hr4 := va.roots4
  refine S_on rfl rfl ?_
  refine S_val (Y_loadS Try.underlying133 rfl sz133 rfl (B2.row (by rfl))) ?_  -- l2
  refine S_on rfl rfl ?_
  refine S_call rfl en125 (spec_CommandValid_c _ _ _ _ _) ?_  -- k2 spec.CommandValid
  rintro v4 w4 ⟨rfl, g4⟩
  replace hA := hA.grow g4
  replace hB := hB.grow g4
  replace G := G.grow g4
  replace B1 := B1.grow g4
  replace B2 := B2.grow g4
  have zg4 := g4.size
  refine S_on rfl rfl ?_
  refine S_val (Y_not rfl) ?_
  refine S_val (Y_pickF rfl rfl) ?_
  refine S_nl rfl rfl ?_
  refine th_n (hK3 _ _ ?_)
  clear hK3 K3
  refine S_if rfl (fun hb2 => ?_) (fun hb2 => ?_)  -- c1
  · -- c1T
   first | with_reducible (replace hb2 := nb_nt hb2) | with_reducible (replace hb2 := nb_tt hb2) | with_reducible (replace hb2 := nb_bt hb2) | skip
   refine wp_seq_k fun K5 hK5 => ?_
   refine Sb 48 rfl ?_  -- 2
   refine S_val (Y_assign rfl) ?_
   refine S_nl rfl rfl ?_
   refine th_n (hK5 _ _ ?_)
   clear hK5 K5
   refine wp_ret ?_
   refine th_r ?_
   clear hK2 K2
   refine ret_r1 rfl rfl ?_  -- r2
   exact ⟨by rw [possB_f2 hb2], G⟩
  · -- c1F
   first | with_reducible (replace hb2 := nb_nf hb2) | with_reducible (replace hb2 := nb_tf hb2) | with_reducible (replace hb2 := nb_bf hb2) | skip
   have hcp := cvB_d0 hb2
   have hcq := hcp
   unfold cvP at hcq
   dsimp only at hcq
   refine wp_skip ?_
   refine th_n (hK2 _ _ ?_)
   clear hK2 K2
   refine wp_seq_k fun K6 hK6 => ?_
   refine wp_seq_k fun K7 hK7 => ?_
   refine Sb 48 rfl ?_  -- 3
   refine S_val (Y_field Try.underlying133 rfl fz133_0 (by decide) rfl) ?_
   refine S_val (Y_load Try.underlying3 rfl rfl (B2.at (by rfl))) ?_  -- l3
   refine S_nl rfl rfl ?_
   refine th_n (hK7 _ _ ?_)
   clear hK7 K7
   refine wp_block ?_
   refine wp_seq_k fun K8 hK8 => ?_
   refine Sb 48 rfl ?_  -- 4
   refine S_val (Y_eql rfl rfl) ?_
   refine S_val (Y_assign rfl) ?_
   refine S_nl rfl rfl ?_
   refine th_n (hK8 _ _ ?_)
   clear hK8 K8
   refine S_if rfl (fun hb3 => ?_) (fun hb3 => ?_)  -- c2
   · -- c2T
    replace hb3 := nb_tt hb3
    obtain ⟨n, hn⟩ := Int.eq_ofNat_of_zero_le (show 0 ≤ ob by omega)
    subst hn
    have hn4 : n < h.roots.length := by omega
    refine wp_seq_k fun K9 hK9 => ?_
    refine D_start 11 48 (fun w => Mod (No) w) follows rfl rfl ?_  -- d1 r5
    intro w5 g5
    replace hA := hA.grow g5
    replace hB := hB.grow g5
    replace G := G.grow g5
    replace B1 := B1.grow g5
    replace B2 := B2.grow g5
    have zg5 := g5.size
    have GS5 := Mod.refl (No) w5
    obtain ⟨g1, o1, e1, hp1, hc1⟩ := hB.int hn4
    cases e1
    have B1d5 := B1
    have B2d5 := B2
    refine Dq (i := 0) rfl GS5 (fun _ hs => Y_loadS Try.underlying32 rfl sz32 rfl (by first | exact hs.cells0 (B1.row (by rfl)))) ?_
    refine Dq (i := 1) rfl GS5 (fun _ _ => Y_field Try.underlying32 rfl fz32_1 (by decide) rfl) ?_
    refine Dq (i := 2) rfl GS5 (fun _ hs => Y_load Try.underlying23 rfl rfl (hs.cell0 (B1.at (by rfl)))) ?_
    refine Dq (i := 3) rfl GS5 (fun _ _ => Y_field Try.underlying133 rfl fz133_2 (by decide) rfl) ?_
    refine Dq (i := 4) rfl GS5 (fun _ hs => Y_load Try.underlying3 rfl rfl (hs.cell0 (B2.at (by rfl)))) ?_
    refine Dq (i := 5) rfl GS5 (fun _ _ => Y_index Try.underlying23 sz3 rfl rfl (by first | assumption | omega)) ?_
    refine Dq (i := 6) rfl GS5 (fun _ hs => Y_load Try.underlying3 rfl rfl (by first | exact hs.cell0 (by assumption) | exact hs.cell0 (B1.at (by rfl)) | exact hs.cell0 (B2.at (by rfl)))) ?_
    refine Dq (i := 7) rfl GS5 (fun _ _ => Y_field Try.underlying133 rfl fz133_3 (by decide) rfl) ?_
    refine Dq (i := 8) rfl GS5 (fun _ hs => Y_load Try.underlying3 rfl rfl (hs.cell0 (B2.at (by rfl)))) ?_
    refine D_1 (i := 9) (by kernel_rfl) ?_
    refine E_call rfl rfl en130 (spec_l8Place_c _ _ _ h _ _ n _ _ _ hA hB (by omega) va hn4 rfl) ?_  -- k3 spec.l8Place
    rintro v6 w6 ⟨rfl, g6⟩
    replace hA := hA.grow g6
    replace hB := hB.grow g6
    replace G := G.grow g6
    replace GS5 := GS5.grow g6
    replace B1 := B1.grow g6
    replace B2 := B2.grow g6
    have zg6 := g6.size
    refine ⟨GS5, ?_⟩
    refine Dq (i := 10) rfl GS5 (fun _ _ => Y_assign rfl) ?_
    refine D_en (by kernel_rfl) rfl rfl ?_
    refine th_n (hK9 _ _ ?_)
    clear hK9 K9
    refine wp_ret ?_
    refine ib_r ?_
    refine th_r ?_
    clear hK6 K6
    refine ret_r1 rfl rfl ?_  -- r3
    exact ⟨by rw [possB_t hb1 hb2]; simp [effectB, hb3], G⟩
   · -- c2F
    replace hb3 := nb_tf hb3
    refine wp_seq_k fun K10 hK10 => ?_
    refine Sb 48 rfl ?_  -- 6
    refine S_val (Y_eql rfl rfl) ?_
    refine S_val (Y_assign rfl) ?_
    refine S_nl rfl rfl ?_
    refine th_n (hK10 _ _ ?_)
    clear hK10 K10
    refine S_if rfl (fun hb4 => ?_) (fun hb4 => ?_)  -- c3
    · -- c3T
     replace hb4 := nb_tt hb4
     obtain ⟨n, hn⟩ := Int.eq_ofNat_of_zero_le (show 0 ≤ oa by omega)
     subst hn
     have hn4 : n < h.roots.length := by omega
     refine wp_seq_k fun K11 hK11 => ?_
     refine D_start 11 48 (fun w => Mod (No) w) follows rfl rfl ?_  -- d2 r7
     intro w7 g7
     replace hA := hA.grow g7
     replace hB := hB.grow g7
     replace G := G.grow g7
     replace B1 := B1.grow g7
     replace B2 := B2.grow g7
     have zg7 := g7.size
     have GS7 := Mod.refl (No) w7
     obtain ⟨g1, o1, e1, hp1, hc1⟩ := hB.int hn4
     cases e1
     have B1d7 := B1
     have B2d7 := B2
     refine Dq (i := 0) rfl GS7 (fun _ hs => Y_loadS Try.underlying32 rfl sz32 rfl (by first | exact hs.cells0 (B1.row (by rfl)))) ?_
     refine Dq (i := 1) rfl GS7 (fun _ _ => Y_field Try.underlying32 rfl fz32_1 (by decide) rfl) ?_
     refine Dq (i := 2) rfl GS7 (fun _ hs => Y_load Try.underlying23 rfl rfl (hs.cell0 (B1.at (by rfl)))) ?_
     refine Dq (i := 3) rfl GS7 (fun _ _ => Y_field Try.underlying133 rfl fz133_1 (by decide) rfl) ?_
     refine Dq (i := 4) rfl GS7 (fun _ hs => Y_load Try.underlying3 rfl rfl (hs.cell0 (B2.at (by rfl)))) ?_
     refine Dq (i := 5) rfl GS7 (fun _ _ => Y_index Try.underlying23 sz3 rfl rfl (by first | assumption | omega)) ?_
     refine Dq (i := 6) rfl GS7 (fun _ hs => Y_load Try.underlying3 rfl rfl (by first | exact hs.cell0 (by assumption) | exact hs.cell0 (B1.at (by rfl)) | exact hs.cell0 (B2.at (by rfl)))) ?_
     refine Dq (i := 7) rfl GS7 (fun _ _ => Y_field Try.underlying133 rfl fz133_3 (by decide) rfl) ?_
     refine Dq (i := 8) rfl GS7 (fun _ hs => Y_load Try.underlying3 rfl rfl (hs.cell0 (B2.at (by rfl)))) ?_
     refine D_1 (i := 9) (by kernel_rfl) ?_
     refine E_call rfl rfl en130 (spec_l8Place_c _ _ _ h _ _ n _ _ _ hA hB (by omega) va hn4 rfl) ?_  -- k4 spec.l8Place
     rintro v8 w8 ⟨rfl, g8⟩
     replace hA := hA.grow g8
     replace hB := hB.grow g8
     replace G := G.grow g8
     replace GS7 := GS7.grow g8
     replace B1 := B1.grow g8
     replace B2 := B2.grow g8
     have zg8 := g8.size
     refine ⟨GS7, ?_⟩
     refine Dq (i := 10) rfl GS7 (fun _ _ => Y_assign rfl) ?_
     refine D_en (by kernel_rfl) rfl rfl ?_
     refine th_n (hK11 _ _ ?_)
     clear hK11 K11
     refine wp_ret ?_
     refine ib_r ?_
     refine th_r ?_
     clear hK6 K6
     refine ret_r1 rfl rfl ?_  -- r4
     exact ⟨by rw [possB_t hb1 hb2]; simp [effectB, hb3, hb4], G⟩
    · -- c3F
     replace hb4 := nb_tf hb4
     refine wp_seq_k fun K12 hK12 => ?_
     refine Sb 48 rfl ?_  -- 8
     refine S_val (Y_eql rfl rfl) ?_
     refine S_val (Y_assign rfl) ?_
     refine S_nl rfl rfl ?_
     refine th_n (hK12 _ _ ?_)
     clear hK12 K12
     refine S_if rfl (fun hb5 => ?_) (fun hb5 => ?_)  -- c4
     · -- c4T
      replace hb5 := nb_tt hb5
      obtain ⟨n, hn⟩ := Int.eq_ofNat_of_zero_le (show 0 ≤ oa by omega)
      subst hn
      have hn4 : n < h.roots.length := by omega
      obtain ⟨g1, o1, e1, hp1, hc1⟩ := hB.int hn4
      cases e1
      refine wp_seq_k fun K13 hK13 => ?_
      refine Sb 48 rfl ?_  -- 9
      refine S_val (Y_field Try.underlying32 rfl fz32_1 (by decide) rfl) ?_
      refine S_val (Y_load Try.underlying23 rfl rfl (B1.at (by rfl))) ?_  -- l14
      refine S_val (Y_field Try.underlying133 rfl fz133_1 (by decide) rfl) ?_
      refine S_val (Y_load Try.underlying3 rfl rfl (B2.at (by rfl))) ?_  -- l15
      refine S_val (Y_index Try.underlying23 sz3 rfl rfl (by first | assumption | omega)) ?_
      refine S_val (Y_load Try.underlying3 rfl rfl (by first | assumption | exact B1.at (by rfl) | exact B2.at (by rfl))) ?_  -- l16
      refine S_val (Y_geq rfl rfl) ?_
      refine S_val (Y_assign rfl) ?_
      refine S_nl rfl rfl ?_
      refine th_n (hK13 _ _ ?_)
      clear hK13 K13
      refine wp_ret ?_
      refine ib_r ?_
      refine th_r ?_
      clear hK6 K6
      refine ret_r1 rfl rfl ?_  -- r5
      exact ⟨by rw [possB_t hb1 hb2]; simp [effectB, hb3, hb4, hb5, rootB_at hn4], G⟩
     · -- c4F
      replace hb5 := nb_tf hb5
      refine wp_skip ?_
      refine ib_n ?_
      refine th_n (hK6 _ _ ?_)
      clear hK6 K6
      refine wp_seq_k fun K14 hK14 => ?_
      refine Sb 48 rfl ?_  -- 10
      refine S_val (Y_assign rfl) ?_
      refine S_nl rfl rfl ?_
      refine th_n (hK14 _ _ ?_)
      clear hK14 K14
      refine wp_ret ?_
      refine ret_r1 rfl rfl ?_  -- r6
      exact ⟨by rw [possB_t hb1 hb2]; simp [effectB, hb3, hb4, hb5], G⟩
end
/-! WalkO -/
section
open Go Go.RowKit
attribute [local irreducible] wpList wpAnyH Code.wp dOp
def emptyH : LH := ⟨[], List.replicate 4 (-1)⟩
theorem OH.bare {Pr : Nat → Prop} {w : World} {eC eI : TypeId} {A B : Option Addr} {xs : List Int} (r : OI Pr w eI B (ints xs)) : OH Pr w eC eI A B ⟨[], xs⟩ [] := ⟨OC.nil _ _ _ _ _, r, fun i c q h => by simp at h⟩
theorem rep_snoc (k : Nat) : List.replicate k (-1 : Int) ++ [-1] = List.replicate (k + 1) (-1) := by simp [List.replicate_succ']
end
end Go.Proofs.Ytikgflhepclfgac
