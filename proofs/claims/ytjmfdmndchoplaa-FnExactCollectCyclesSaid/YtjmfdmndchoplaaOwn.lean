/-
  Lists of values as the walks meet them.
  Conditions: none.
-/
import Derived.Test.YtjmfdmndchoplaaOpt
import Derived.Test.YtjmfdmndchoplaaPlain
namespace Go.Proofs.Ytjmfdmndchoplaa
open Go
theorem zeros_pos {z : List Value} {n : Nat} (h : 0 < n) : zeros z n = z ++ zeros z (n - 1) := by
  obtain ⟨m, rfl⟩ : ∃ m, n = m + 1 := ⟨n - 1, by omega⟩
  rfl
theorem ints_snoc {xs : List Int} {k : Nat} (h : k < xs.length) {z : List Value} : ints (xs.take k) ++ [.int .i64 xs[k]] ++ zeros z (xs.length - k - 1) = ints (xs.take (k + 1)) ++ zeros z (xs.length - (k + 1)) := by
  unfold ints
  rw [List.take_succ_eq_append_getElem h, List.map_append, Nat.sub_sub]
  rfl
/-! ### rows that a call has made -/
/-- A slice whose elements, if it has any, lie at the head of a block that is known, and that meets Pr. -/
def OI (Pr : Nat → Prop) (w : World) (e : TypeId) (A : Option Addr) (us : List Value) : Prop :=
  us ≠ [] → ∃ b post, A = some ⟨b, 0, none⟩ ∧ Pr b ∧ Blk w b e (us ++ post).toArray
section
variable {Pr Pr' S : Nat → Prop} {w w' : World} {e : TypeId} {A : Option Addr} {us : List Value}
theorem OI.mod (h : OI Pr w e A us) (m : Mod S w w') (hd : ∀ k, Pr k → ¬ S k) : OI Pr w' e A us := fun hn => by
  obtain ⟨b, post, hA, hp, hB⟩ := h hn
  exact ⟨b, post, hA, hp, hB.mod m (hd b hp)⟩
theorem OI.md (h : OI Pr w e A us) (m : Mod S w w') (hd : ∀ k, Pr k → ¬ S k := by intro k hk h; first | omega | (dsimp only at hk h; omega) | (dsimp only at hk; omega)) : OI Pr w' e A us := h.mod m hd
theorem OI.grow (h : OI Pr w e A us) (m : Grow w w') : OI Pr w' e A us := h.mod m (fun _ _ h => h)
theorem OI.weak (h : OI Pr w e A us) (hp : ∀ k, Pr k → Pr' k) : OI Pr' w e A us := fun hn => by
  obtain ⟨b, post, hA, h1, hB⟩ := h hn
  exact ⟨b, post, hA, hp b h1, hB⟩
theorem OI.lt (h : OI Pr w e A us) : OI (fun k => Pr k ∧ k < w.heap.size) w e A us := fun hn => by
  obtain ⟨b, post, hA, h1, hB⟩ := h hn
  exact ⟨b, post, hA, ⟨h1, hB.lt⟩, hB⟩
theorem OI.nil (Pr : Nat → Prop) (w : World) (e : TypeId) (A : Option Addr) : OI Pr w e A [] := fun h => absurd rfl h
theorem OI.of_blk {b : Nat} {post : List Value} (h : Blk w b e (us ++ post).toArray) (hp : Pr b) : OI Pr w e (some ⟨b, 0, none⟩) us := fun _ => ⟨b, post, rfl, hp, h⟩
theorem OI.of_blk' {b : Nat} (h : Blk w b e us.toArray) (hp : Pr b) : OI Pr w e (some ⟨b, 0, none⟩) us := OI.of_blk (post := []) (by simpa using h) hp
theorem OI.r1 (h : OI Pr w e A us) : R1 Pr w A us := fun k u hu => by
  have hn : us ≠ [] := by rintro rfl; simp at hu
  obtain ⟨b, post, hA, h1, hB⟩ := h hn
  subst hA
  exact R1.of_blk hB h1 k u hu
end
/-- The cells of a heap, flat: rs gives address and capacity of each cell's references. -/
def flatC : List LC → List (Option Addr × Nat) → List Value
  | c :: cs, r :: rs => .bool c.used :: .int .i64 c.data :: .slice r.1 c.refs.length r.2 :: flatC cs rs
  | _, _ => []
theorem flatC_len : ∀ {cs : List LC} {rs : List (Option Addr × Nat)}, rs.length = cs.length → (flatC cs rs).length = cs.length * 3
  | [], [], _ => rfl
  | c :: cs, r :: rs, h => by
    have := flatC_len (cs := cs) (rs := rs) (by simpa using h)
    simp [flatC, this]
    omega
  | [], _ :: _, h => by simp at h
  | _ :: _, [], h => by simp at h
theorem flatC_app : ∀ {cs cs' : List LC} {rs rs' : List (Option Addr × Nat)}, rs.length = cs.length → flatC (cs ++ cs') (rs ++ rs') = flatC cs rs ++ flatC cs' rs'
  | [], _, [], _, _ => rfl
  | c :: cs, cs', r :: rs, rs', h => by
    have := flatC_app (cs := cs) (cs' := cs') (rs := rs) (rs' := rs') (by simpa using h)
    simp [flatC, this]
  | [], _, _ :: _, _, h => by simp at h
  | _ :: _, _, [], _, h => by simp at h
/-- The rows of references of the cells: each owned, no two in one block. -/
structure ORs (Pr : Nat → Prop) (w : World) (e : TypeId) (cs : List LC) (rs : List (Option Addr × Nat)) : Prop where
  len : rs.length = cs.length
  own : ∀ (i : Nat) (c : LC) (r : Option Addr × Nat), cs[i]? = some c → rs[i]? = some r → OI Pr w e r.1 (ints c.refs)
  far : ∀ (i j : Nat) (c c' : LC) (r r' : Option Addr × Nat), cs[i]? = some c → cs[j]? = some c' → rs[i]? = some r → rs[j]? = some r' → i ≠ j → c.refs ≠ [] → c'.refs ≠ [] → r.1 ≠ r'.1
section
variable {Pr Pr' S : Nat → Prop} {w w' : World} {e : TypeId} {cs : List LC} {rs : List (Option Addr × Nat)}
theorem ORs.nil (Pr : Nat → Prop) (w : World) (e : TypeId) : ORs Pr w e [] [] := ⟨rfl, fun i c r h => by simp at h, fun i j c c' r r' h => by simp at h⟩
theorem ORs.mod (h : ORs Pr w e cs rs) (m : Mod S w w') (hd : ∀ k, Pr k → ¬ S k) : ORs Pr w' e cs rs := ⟨h.len, fun i c r h1 h2 => (h.own i c r h1 h2).mod m hd, h.far⟩
theorem ORs.md (h : ORs Pr w e cs rs) (m : Mod S w w') (hd : ∀ k, Pr k → ¬ S k := by intro k hk h; first | omega | (dsimp only at hk h; omega) | (dsimp only at hk; omega)) : ORs Pr w' e cs rs := h.mod m hd
theorem ORs.grow (h : ORs Pr w e cs rs) (m : Grow w w') : ORs Pr w' e cs rs := h.mod m (fun _ _ h => h)
theorem ORs.weak (h : ORs Pr w e cs rs) (hp : ∀ k, Pr k → Pr' k) : ORs Pr' w e cs rs := ⟨h.len, fun i c r h1 h2 => (h.own i c r h1 h2).weak hp, h.far⟩
theorem ORs.lt (h : ORs Pr w e cs rs) : ORs (fun k => Pr k ∧ k < w.heap.size) w e cs rs := ⟨h.len, fun i c r h1 h2 => (h.own i c r h1 h2).lt, h.far⟩
theorem ORs.flat (h : ORs Pr w e cs rs) : (flatC cs rs).length = cs.length * 3 := flatC_len h.len
theorem ORs.snoc (h : ORs Pr w e cs rs) {c : LC} {A : Option Addr} {cap : Nat} (hA : OI Pr' w e A (ints c.refs)) (hw : ∀ k, Pr k → Pr' k) (hne : ∀ k b, Pr k → A = some ⟨b, 0, none⟩ → k ≠ b) :
    ORs Pr' w e (cs ++ [c]) (rs ++ [(A, cap)]) := by
  have hl := h.len
  have g1 : ∀ {i : Nat} {x : LC} {r : Option Addr × Nat}, (cs ++ [c])[i]? = some x → (rs ++ [(A, cap)])[i]? = some r → (cs[i]? = some x ∧ rs[i]? = some r) ∨ (i = cs.length ∧ x = c ∧ r = (A, cap)) := by
    intro i x r hx hr
    by_cases hi : i < cs.length
    · rw [List.getElem?_append_left hi] at hx
      rw [List.getElem?_append_left (by omega)] at hr
      exact .inl ⟨hx, hr⟩
    · have hlt := (List.getElem?_eq_some_iff.1 hx).1
      simp only [List.length_append, List.length_cons, List.length_nil] at hlt
      have e0 : i = cs.length := by omega
      subst e0
      rw [List.getElem?_append_right (Nat.le_refl _)] at hx
      rw [List.getElem?_append_right (by omega)] at hr
      simp at hx
      simp [hl] at hr
      exact .inr ⟨rfl, hx.symm, hr.symm⟩
  refine ⟨by simp [hl], fun i x r hx hr => ?_, fun i j x y r r' hx hy hr hr' hij h1 h2 => ?_⟩
  · rcases g1 hx hr with ⟨a, b⟩ | ⟨_, rfl, rfl⟩
    · exact (h.own i x r a b).weak hw
    · exact hA
  · rcases g1 hx hr with ⟨a, b⟩ | ⟨i1, rfl, rfl⟩ <;> rcases g1 hy hr' with ⟨a', b'⟩ | ⟨i2, rfl, rfl⟩
    · exact h.far i j x y r r' a a' b b' hij h1 h2
    · obtain ⟨g, _, e1, hp, _⟩ := h.own i x r a b (by simp [ints, h1])
      intro e2
      exact hne g g hp (by rw [← e1, e2]) rfl
    · obtain ⟨g, _, e1, hp, _⟩ := h.own j y r' a' b' (by simp [ints, h2])
      intro e2
      exact hne g g hp (by rw [← e1, ← e2]) rfl
    · omega
end
theorem flatC_snoc {cs : List LC} {rs : List (Option Addr × Nat)} {k : Nat} (hr : rs.length = (cs.take k).length) (hk : k < cs.length) {A : Option Addr} {cap : Nat} {z : List Value} :
    flatC (cs.take k) rs ++ [.bool cs[k].used, .int .i64 cs[k].data, .slice A cs[k].refs.length cap] ++ zeros z (cs.length - k - 1) = flatC (cs.take (k + 1)) (rs ++ [(A, cap)]) ++ zeros z (cs.length - (k + 1)) := by
  rw [List.take_succ_eq_append_getElem hk, flatC_app hr, Nat.sub_sub]
  rfl
/-- The cells of a heap, owned: eC, eI are the types of cells and of ints. -/
structure OC (Pr : Nat → Prop) (w : World) (eC eI : TypeId) (A : Option Addr) (cs : List LC) (rs : List (Option Addr × Nat)) : Prop where
  rows : ORs Pr w eI cs rs
  blk : cs ≠ [] → ∃ g post, A = some ⟨g, 0, none⟩ ∧ Pr g ∧ Blk w g eC (flatC cs rs ++ post).toArray
section
variable {Pr Pr' S : Nat → Prop} {w w' : World} {eC eI : TypeId} {A : Option Addr} {cs : List LC} {rs : List (Option Addr × Nat)}
theorem OC.mod (h : OC Pr w eC eI A cs rs) (m : Mod S w w') (hd : ∀ k, Pr k → ¬ S k) : OC Pr w' eC eI A cs rs := ⟨h.rows.mod m hd, fun hn => by
  obtain ⟨g, post, hA, hp, hB⟩ := h.blk hn
  exact ⟨g, post, hA, hp, hB.mod m (hd g hp)⟩⟩
theorem OC.md (h : OC Pr w eC eI A cs rs) (m : Mod S w w') (hd : ∀ k, Pr k → ¬ S k := by intro k hk h; first | omega | (dsimp only at hk h; omega) | (dsimp only at hk; omega)) : OC Pr w' eC eI A cs rs := h.mod m hd
theorem OC.grow (h : OC Pr w eC eI A cs rs) (m : Grow w w') : OC Pr w' eC eI A cs rs := h.mod m (fun _ _ h => h)
theorem OC.weak (h : OC Pr w eC eI A cs rs) (hp : ∀ k, Pr k → Pr' k) : OC Pr' w eC eI A cs rs := ⟨h.rows.weak hp, fun hn => by
  obtain ⟨g, post, hA, h1, hB⟩ := h.blk hn
  exact ⟨g, post, hA, hp g h1, hB⟩⟩
theorem OC.lt (h : OC Pr w eC eI A cs rs) : OC (fun k => Pr k ∧ k < w.heap.size) w eC eI A cs rs := ⟨h.rows.lt, fun hn => by
  obtain ⟨g, post, hA, h1, hB⟩ := h.blk hn
  exact ⟨g, post, hA, ⟨h1, hB.lt⟩, hB⟩⟩
theorem OC.nil (Pr : Nat → Prop) (w : World) (eC eI : TypeId) (A : Option Addr) : OC Pr w eC eI A [] [] := ⟨ORs.nil _ _ _, fun h => absurd rfl h⟩
theorem flatC_at {k : Nat} {c : LC} {r : Option Addr × Nat} (hl : rs.length = cs.length) (hc : cs[k]? = some c) (hr : rs[k]? = some r) :
    flatC cs rs = flatC (cs.take k) (rs.take k) ++ [.bool c.used, .int .i64 c.data, .slice r.1 c.refs.length r.2] ++ flatC (cs.drop (k + 1)) (rs.drop (k + 1)) := by
  obtain ⟨h1, e1⟩ := List.getElem?_eq_some_iff.1 hc
  obtain ⟨h2, e2⟩ := List.getElem?_eq_some_iff.1 hr
  have a : cs = cs.take k ++ ([c] ++ cs.drop (k + 1)) := by
    rw [← e1, List.singleton_append, ← List.drop_eq_getElem_cons, List.take_append_drop]
  have b : rs = rs.take k ++ ([r] ++ rs.drop (k + 1)) := by
    rw [← e2, List.singleton_append, ← List.drop_eq_getElem_cons, List.take_append_drop]
  have hlk : (rs.take k).length = (cs.take k).length := by simp [hl]
  rw [List.append_assoc]
  conv => lhs; rw [a, b]
  rw [flatC_app hlk]
  rfl
theorem OC.rc (h : OC Pr w eC eI A cs rs) : RC Pr w A cs := fun k c hc => by
  have hn : cs ≠ [] := by rintro rfl; simp at hc
  have hk := (List.getElem?_eq_some_iff.1 hc).1
  obtain ⟨g, post, hA, hp, hB⟩ := h.blk hn
  have hr : rs[k]? = some (rs[k]'(by rw [h.rows.len]; exact hk)) := List.getElem?_eq_getElem _
  refine ⟨g, 0, _, (rs[k]'(by rw [h.rows.len]; exact hk)).2, hA, hp, ?_, (h.rows.own k c _ hc hr).r1⟩
  rw [flatC_at h.rows.len hc hr, List.append_assoc] at hB
  rw [Nat.zero_add]
  exact CellsAt.of_blk hB (by rw [flatC_len (by simp [h.rows.len]), List.length_take]; omega)
end
/-- A heap that is owned whole. -/
structure OH (Pr : Nat → Prop) (w : World) (eC eI : TypeId) (A B : Option Addr) (h : LH) (rs : List (Option Addr × Nat)) : Prop where
  cells : OC Pr w eC eI A h.cells rs
  roots : OI Pr w eI B (ints h.roots)
  far : ∀ (i : Nat) (c : LC) (r : Option Addr × Nat), h.cells[i]? = some c → rs[i]? = some r → c.refs ≠ [] → h.roots ≠ [] → r.1 ≠ B
section
variable {Pr Pr' S : Nat → Prop} {w w' : World} {eC eI : TypeId} {A B : Option Addr} {h : LH} {rs : List (Option Addr × Nat)}
theorem OH.mod (o : OH Pr w eC eI A B h rs) (m : Mod S w w') (hd : ∀ k, Pr k → ¬ S k) : OH Pr w' eC eI A B h rs := ⟨o.cells.mod m hd, o.roots.mod m hd, o.far⟩
theorem OH.md (o : OH Pr w eC eI A B h rs) (m : Mod S w w') (hd : ∀ k, Pr k → ¬ S k := by intro k hk h; first | omega | (dsimp only at hk h; omega) | (dsimp only at hk; omega)) : OH Pr w' eC eI A B h rs := o.mod m hd
theorem OH.grow (o : OH Pr w eC eI A B h rs) (m : Grow w w') : OH Pr w' eC eI A B h rs := o.mod m (fun _ _ h => h)
theorem OH.weak (o : OH Pr w eC eI A B h rs) (hp : ∀ k, Pr k → Pr' k) : OH Pr' w eC eI A B h rs := ⟨o.cells.weak hp, o.roots.weak hp, o.far⟩
theorem OH.lt (o : OH Pr w eC eI A B h rs) : OH (fun k => Pr k ∧ k < w.heap.size) w eC eI A B h rs := ⟨o.cells.lt, o.roots.lt, o.far⟩
theorem OH.rc (o : OH Pr w eC eI A B h rs) : RC Pr w A h.cells := o.cells.rc
theorem OH.r1 (o : OH Pr w eC eI A B h rs) : R1 Pr w B (ints h.roots) := o.roots.r1
/-- Rows made later are others than rows made before. -/
theorem OH.of_parts {P1 P2 : Nat → Prop} (hc : OC P1 w eC eI A h.cells rs) (hr : OI P2 w eI B (ints h.roots)) (hne : ∀ k b, P1 k → B = some ⟨b, 0, none⟩ → P2 b → k ≠ b) (h1 : ∀ k, P1 k → Pr k) (h2 : ∀ k, P2 k → Pr k) : OH Pr w eC eI A B h rs := by
  refine ⟨hc.weak h1, hr.weak h2, fun i c r h1 h2 h3 h4 e => ?_⟩
  obtain ⟨b, _, e1, hp1, _⟩ := hr (by simp [ints, h4])
  obtain ⟨g, _, e2, hp2, _⟩ := hc.rows.own i c r h1 h2 (by simp [ints, h3])
  rw [e, e1] at e2
  injection e2 with e2
  injection e2 with e2
  exact hne g b hp2 e1 hp1 e2.symm
end
end Go.Proofs.Ytjmfdmndchoplaa
