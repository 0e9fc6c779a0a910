/-
  Slices that grow: append, slices of slices, slices that are written out.
  Conditions: none.
-/
import Derived.Maps.AppendAt
import Derived.Laws.Shifts
import Derived.Test.YtjmfdmndchoplaaOwn
namespace Go.Proofs.Ytjmfdmndchoplaa
open Go Go.RowKit

/-- A slice with n elements of s cells each, at the head of a block that meets Pr; it may be appended to. -/
def OW (Pr : Nat → Prop) (w : World) (e : TypeId) (s : Nat) (A : Option Addr) (n cap : Nat) (us : List Value) : Prop :=
  us.length = n * s ∧ ((A = none ∧ n = 0 ∧ cap = 0) ∨ ∃ g cur, A = some ⟨g, 0, none⟩ ∧ Pr g ∧ w.heap[g]? = some (.cells cur e (0, 0)) ∧ n ≤ cap ∧ cap ≤ maxLen ∧ cur.size = cap * s ∧ cur.toList.take (n * s) = us)
section
variable {Pr Pr' S : Nat → Prop} {w w' : World} {e : TypeId} {s n cap : Nat} {A : Option Addr} {us : List Value}
theorem OW.mod (h : OW Pr w e s A n cap us) (m : Mod S w w') (hd : ∀ k, Pr k → ¬ S k) : OW Pr w' e s A n cap us := by
  refine ⟨h.1, ?_⟩
  rcases h.2 with a | ⟨g, cur, h1, h2, h3, h4⟩
  · exact .inl a
  · exact .inr ⟨g, cur, h1, h2, (m.block g (Blk.lt h3) (hd g h2)).trans h3, h4⟩
theorem OW.md (h : OW Pr w e s A n cap us) (m : Mod S w w') (hd : ∀ k, Pr k → ¬ S k := by intro k hk h; first | omega | (dsimp only at hk h; omega) | (dsimp only at hk; omega)) : OW Pr w' e s A n cap us := h.mod m hd
theorem OW.grow (h : OW Pr w e s A n cap us) (m : Grow w w') : OW Pr w' e s A n cap us := h.mod m (fun _ _ h => h)
theorem OW.weak (h : OW Pr w e s A n cap us) (hp : ∀ k, Pr k → Pr' k) : OW Pr' w e s A n cap us := by
  refine ⟨h.1, ?_⟩
  rcases h.2 with a | ⟨g, cur, h1, h2, h3⟩
  · exact .inl a
  · exact .inr ⟨g, cur, h1, hp g h2, h3⟩
theorem OW.lt (h : OW Pr w e s A n cap us) : OW (fun k => Pr k ∧ k < w.heap.size) w e s A n cap us := by
  refine ⟨h.1, ?_⟩
  rcases h.2 with a | ⟨g, cur, h1, h2, h3, h4⟩
  · exact .inl a
  · exact .inr ⟨g, cur, h1, ⟨h2, Blk.lt h3⟩, h3, h4⟩
theorem OW.nil (Pr : Nat → Prop) (w : World) (e : TypeId) (s : Nat) : OW Pr w e s none 0 0 [] := ⟨by simp, .inl ⟨rfl, rfl, rfl⟩⟩
theorem OW.of_blk {b : Nat} (h : Blk w b e us.toArray) (hl : us.length = n * s) (hn : n ≤ maxLen) (hp : Pr b) : OW Pr w e s (some ⟨b, 0, none⟩) n n us :=
  ⟨hl, .inr ⟨b, us.toArray, rfl, hp, h, Nat.le_refl _, hn, by simpa using hl, by simp [← hl]⟩⟩
theorem OW.own (h : OW Pr w e s A n cap us) : w.ownsRow 0 e s (.slice A n cap) n us := by
  refine ⟨h.1, ?_⟩
  rcases h.2 with ⟨rfl, rfl, rfl⟩ | ⟨g, cur, rfl, _, h3, h4⟩
  · exact .inl ⟨rfl, rfl⟩
  · exact .inr ⟨g, cap, cur, rfl, Nat.zero_le _, h3, h4⟩
theorem OW.blk (h : OW Pr w e s A n cap us) (hn : us ≠ []) : ∃ b post, A = some ⟨b, 0, none⟩ ∧ Pr b ∧ Blk w b e (us ++ post).toArray := by
  rcases h.2 with ⟨_, h2, _⟩ | ⟨g, cur, h1, h2, h3, _, _, _, h7⟩
  · have := h.1
    subst h2
    simp at this
    exact absurd this hn
  · refine ⟨g, cur.toList.drop (n * s), h1, h2, ?_⟩
    rw [← h7, List.take_append_drop]
    simpa [Blk] using h3
theorem OW.oi (h : OW Pr w e s A n cap us) : OI Pr w e A us := fun hn => h.blk hn
theorem OW.r1 (h : OW Pr w e s A n cap us) : R1 Pr w A us := h.oi.r1
theorem OW.pop (h : OW Pr w e s A n cap us) {m : Nat} (hm : m ≤ n) : OW Pr w e s A m cap (us.take (m * s)) := by
  have hle : m * s ≤ n * s := Nat.mul_le_mul_right _ hm
  refine ⟨by rw [List.length_take, h.1]; omega, ?_⟩
  rcases h.2 with ⟨h1, h2, h3⟩ | ⟨g, cur, h1, h2, h3, h4, h5, h6, h7⟩
  · exact .inl ⟨h1, by omega, h3⟩
  · exact .inr ⟨g, cur, h1, h2, h3, by omega, h5, h6, by rw [← h7, List.take_take, Nat.min_eq_left hle]⟩
end
theorem append_ty {ats : Array TypeId} {ty ty' : TypeId} {args : Array Value} : Builtin.append_ ats ty args = Builtin.append_ ats ty' args := rfl
section
variable {P : Program} {w : World}
/-- What is appended can be read. -/
def Src (w : World) (A : Option Addr) (m : Nat) (news : List Value) : Prop := (A = none → m = 0) ∧ ∀ a, A = some a → ∀ j u, news[j]? = some u → w.cell? (a.add j) = some u
theorem Src.r1 {Pr : Nat → Prop} {A : Option Addr} {news : List Value} (h : R1 Pr w A news) : Src w A news.length news := by
  refine ⟨fun hA => ?_, fun a hA j u hu => ?_⟩
  · subst hA
    cases news with
    | nil => rfl
    | cons x xs => obtain ⟨_, _, h1, _⟩ := h 0 x rfl; cases h1
  · obtain ⟨g, o, h1, _, hc⟩ := h j u hu
    rw [hA] at h1
    cases h1
    rw [Addr.add_lit]
    simpa using hc
theorem Src.blk {b m : Nat} {e : TypeId} {news : List Value} (h : Blk w b e news.toArray) : Src w (some ⟨b, 0, none⟩) m news := by
  refine ⟨fun h => (by cases h), fun a hA j u hu => ?_⟩
  cases hA
  rw [Addr.add_lit, Nat.zero_add]
  exact h.at (by simpa using hu)
theorem ints_one {xs : List Int} : ∀ u ∈ ints xs, u.oneCell' = true := fun u hu => by
  simp only [ints, List.mem_map] at hu
  obtain ⟨x, _, rfl⟩ := hu
  rfl
theorem bools_one {xs : List Bool} : ∀ u ∈ bools xs, u.oneCell' = true := fun u hu => by
  simp only [bools, List.mem_map] at hu
  obtain ⟨x, _, rfl⟩ := hu
  rfl
theorem run_app {t ty e : TypeId} {zv : Value} {s by_ n cap m c : Nat} {A A2 : Option Addr} {us news : List Value} {Pr : Nat → Prop} (ht : P.underlying t = some (.slice e)) (hz : zr P e = some zv) (hs : sz P e = some s) (hb : byt P e = some by_)
    (hzs : zv.cells.size = s) (h0 : 0 < s) (h9 : by_ ≤ 100) (O : OW Pr w e s A n cap us) (hl : news.length = m * s) (hsrc : Src w A2 m news) (h1 : ∀ u ∈ news, u.oneCell' = true) (hlen : n + m ≤ 1099511627776) :
    ∃ A' cap' w', (Builtin.append_ #[t, t] ty #[.slice A n cap, .slice A2 m c]).run P w = .ok (.slice A' (n + m) cap') w' ∧ OW (fun k => Pr k ∨ k = w.heap.size) w' e s A' (n + m) cap' (us ++ news) ∧ Mod Pr w w' := by
  unfold zr at hz
  unfold sz at hs
  unfold byt at hb
  obtain ⟨i, hi, hze⟩ := Option.bind_eq_some_iff.1 hz
  rw [hi] at hs hb
  have hs' : i.size = s := by simpa using hs
  have hb' : i.bytes = by_ := by simpa using hb
  cases A2 with
  | none =>
    have hm := hsrc.1 rfl
    subst hm
    have hn : news = [] := List.eq_nil_of_length_eq_zero (by simpa using hl)
    subst hn
    refine ⟨A, cap, w, ?_, by simpa using O.weak (fun k hk => .inl hk), Mod.refl _ _⟩
    have hcap : n ≤ cap := by
      rcases O.2 with ⟨_, h2, _⟩ | ⟨g, cur, _, _, _, h4, _⟩ <;> omega
    cases A <;> simp [Builtin.append_, run_underlying ht, sizeOf, typeInfo, hi, Builtin.lenOf, Builtin.firstCells, loadCells, hcap, storeCells]
  | some a =>
    obtain ⟨v', w', hr, how, hg, _, hob⟩ := run_append_own_at (P := P) w 0 t ty e i zv s by_ ht hi hze hs' hb' hzs h0 _ n us O.own a m c news hl (hsrc.2 a rfl) h1 (by simp only [maxLen]; omega)
      (by have := Nat.mul_le_mul hlen h9; omega) (Nat.zero_le _)
    have hm : Mod Pr w w' := (mod_grown hg).weak (fun k hk _ => by
      rcases O.2 with ⟨rfl, _, _⟩ | ⟨g, cur, rfl, h2, _⟩
      · simp [Value.ownBlock] at hk
      · simp [Value.ownBlock] at hk
        exact hk ▸ h2)
    rcases how.2 with ⟨rfl, h3⟩ | ⟨g, cap', cur, rfl, _, h3, h4, h5, h6, h7⟩
    · have e1 : n = 0 := by omega
      have e2 : m = 0 := by omega
      subst e1
      subst e2
      exact ⟨none, 0, w', hr, ⟨how.1, .inl ⟨rfl, rfl, rfl⟩⟩, hm⟩
    · refine ⟨_, cap', w', hr, ⟨how.1, .inr ⟨g, cur, rfl, ?_, h3, h4, h5, h6, h7⟩⟩, hm⟩
      rcases hob with hob | hob
      · rcases O.2 with ⟨rfl, _, _⟩ | ⟨g', cur', rfl, h2, _⟩
        · simp [Value.ownBlock] at hob
        · simp [Value.ownBlock] at hob
          exact .inl (hob ▸ h2)
      · simp [Value.ownBlock] at hob
        exact .inr hob
end
section
variable {P : Program} {ops : Array Oper} {Q : Exit → Act → World → Prop} {S : World → Prop} {rest : List Oper} {fuel : Nat} {lst : List Bool} {F : Fr} {D : List Deferred} {w : World}
  {d : Tmp} {ty : TypeId} {pos : String} {af : Array Edge} {e t : TypeId} {x y : Operand} {zv : Value} {s by_ n cap m c i : Nat} {A A2 : Option Addr} {us news : List Value} {Pr Pr' : Nat → Prop}
theorem Y_app (ht : P.underlying t = some (.slice e)) (hz : zr P e = some zv) (hs : sz P e = some s) (hb : byt P e = some by_) (hx : ev F x = some (.slice A n cap)) (hy : ev F y = some (.slice A2 m c))
    (O : OW Pr w e s A n cap us) (hl : news.length = m * s) (hsrc : Src w A2 m news) (h1 : ∀ u ∈ news, u.oneCell' = true) (hlen : n + m ≤ 1099511627776)
    (hp : ∀ k, Pr k → Pr' k) (hn : Pr' w.heap.size) (hzs : zv.cells.size = s) (h0 : 0 < s) (h9 : by_ ≤ 100) :
    ∃ A' cap' w', Yl P F (.call ⟨.builtin .append, #[x, y], #[t, t]⟩) (.slice A' (n + m) cap') w w' ∧ OW Pr' w' e s A' (n + m) cap' (us ++ news) ∧ Mod Pr w w' := by
  obtain ⟨A', cap', w', hr, ho, hm⟩ := run_app (P := P) (ty := 0) (c := c) ht hz hs hb hzs h0 h9 O hl hsrc h1 hlen
  refine ⟨A', cap', w', fun D _ _ _ _ _ => ?_, ho.weak (fun k hk => hk.elim (hp k) (fun e => e ▸ hn)), hm⟩
  simp only [execOp, resolve, invoke, builtin, List.map_toArray, List.map_cons, List.map_nil, ev_eval (D := D) hx, ev_eval (D := D) hy, Sem.run_bind, Sem.run_pure, Result.andThen_ok]
  simp only [append_ty (ty' := 0)]
  simp [hr]
theorem S_app (ht : P.underlying t = some (.slice e)) (hz : zr P e = some zv) (hs : sz P e = some s) (hb : byt P e = some by_) (hx : ev F x = some (.slice A n cap)) (hy : ev F y = some (.slice A2 m c))
    (O : OW Pr w e s A n cap us) (hl : news.length = m * s) (hsrc : Src w A2 m news) (h1 : ∀ u ∈ news, u.oneCell' = true) (hlen : n + m ≤ 1099511627776)
    (hp : ∀ k, Pr k → Pr' k) (hn : Pr' w.heap.size)
    (k : ∀ A' cap' w', OW Pr' w' e s A' (n + m) cap' (us ++ news) → Mod Pr w w' → wpList P ops Q rest ⟨(F.put d (.slice A' (n + m) cap')).list.toArray, D⟩ w') (hzs : zv.cells.size = s := by rfl) (h0 : 0 < s := by decide) (h9 : by_ ≤ 100 := by decide) :
    wpList P ops Q (⟨some d, .call ⟨.builtin .append, #[x, y], #[t, t]⟩, ty, pos, af, none⟩ :: rest) ⟨F.list.toArray, D⟩ w := by
  obtain ⟨A', cap', w', hy', ho, hm⟩ := Y_app ht hz hs hb hx hy O hl hsrc h1 hlen hp hn hzs h0 h9
  exact S_val hy' (k _ _ _ ho hm)
theorem E_app (hi : ops[i]? = some ⟨some d, .call ⟨.builtin .append, #[x, y], #[t, t]⟩, ty, pos, af, none⟩) (ht : P.underlying t = some (.slice e)) (hz : zr P e = some zv) (hs : sz P e = some s) (hb : byt P e = some by_) (hx : ev F x = some (.slice A n cap)) (hy : ev F y = some (.slice A2 m c))
    (O : OW Pr w e s A n cap us) (hl : news.length = m * s) (hsrc : Src w A2 m news) (h1 : ∀ u ∈ news, u.oneCell' = true) (hlen : n + m ≤ 1099511627776)
    (hp : ∀ k, Pr k → Pr' k) (hn : Pr' w.heap.size)
    (k : ∀ A' cap' w', OW Pr' w' e s A' (n + m) cap' (us ++ news) → Mod Pr w w' → S w' ∧ wpAnyH P .any ops Q S fuel (lst.set i true).toArray ⟨(F.put d (.slice A' (n + m) cap')).list.toArray, D⟩ w') (hzs : zv.cells.size = s := by rfl) (h0 : 0 < s := by decide) (h9 : by_ ≤ 100 := by decide) :
    dOp P ops Q S fuel lst ⟨F.list.toArray, D⟩ w i := by
  obtain ⟨A', cap', w', hy', ho, hm⟩ := Y_app ht hz hs hb hx hy O hl hsrc h1 hlen hp hn hzs h0 h9
  have h := k _ _ _ ho hm
  exact E_val hi hy' h.1 h.2
/-- A slice up to j. -/
theorem Y_sliceH {j : Nat} {q : IntKind} (ht : P.underlying t = some (.slice e)) (hs : sz P e = some s) (hx : ev F x = some (.slice A n cap)) (hy : ev F y = some (.int q (j : Int))) (hj : j ≤ cap) :
    Yl P F (.slice t x none (some y) none) (.slice A j cap) w w := fun D _ _ _ _ _ => by
  have he : P.elem t = e := by simp [Program.elem, ht]
  have h := run_slice_h (P := P) (w := w) t A n cap (by rw [he]; exact ht) q (j : Int) (by omega) (by omega)
  have h2 := run_sliceAt_slice (P := P) (w := w) t (.slice A n cap) none (some (.int q (j : Int))) none (by rw [he]; exact ht)
  rw [he, sz_run hs] at h
  have hA : A.map (·.add 0) = A := by
    cases A with
    | none => rfl
    | some a => cases a; simp [Addr.add]
  simp [execOp, ev_eval (D := D) hx, ev_eval (D := D) hy, h2, h, sliced, Result.andThen]
  intro _
  simpa using hA
/-- A slice of no element. -/
theorem Y_bs0 (ht : P.underlying t = some (.slice e)) (hs : sz P e = some s) : Yl P F (.buildSlice t 0 #[]) (.slice (some ⟨w.heap.size, 0, none⟩) 0 0) w (w.alloc (.cells #[] e)) := fun D _ _ _ _ _ => by
  simp [execOp, Instr.buildSlice, run_underlying ht, sz_run hs, Instr.fill, newRow]
  congr 2
  exact Array.ext (by simp) (fun i h _ => by simp at h)
theorem S_bs0 (ht : P.underlying t = some (.slice e)) (hs : sz P e = some s) (k : ∀ b w', w.heap.size ≤ b → Grow w w' → Blk w' b e ([] : List Value).toArray → wpList P ops Q rest ⟨(F.put d (.slice (some ⟨b, 0, none⟩) 0 0)).list.toArray, D⟩ w') :
    wpList P ops Q (⟨some d, .buildSlice t 0 #[], ty, pos, af, none⟩ :: rest) ⟨F.list.toArray, D⟩ w :=
  S_val (Y_bs0 ht hs) (k _ _ (Nat.le_refl _) (grow_alloc _ _) (Blk.new _ _ _))
theorem E_bs0 (hi : ops[i]? = some ⟨some d, .buildSlice t 0 #[], ty, pos, af, none⟩) (ht : P.underlying t = some (.slice e)) (hs : sz P e = some s)
    (k : ∀ b w', w.heap.size ≤ b → Grow w w' → Blk w' b e ([] : List Value).toArray → S w' ∧ wpAnyH P .any ops Q S fuel (lst.set i true).toArray ⟨(F.put d (.slice (some ⟨b, 0, none⟩) 0 0)).list.toArray, D⟩ w') :
    dOp P ops Q S fuel lst ⟨F.list.toArray, D⟩ w i := by
  have h := k _ _ (Nat.le_refl _) (grow_alloc _ _) (Blk.new w e #[])
  exact E_val hi (Y_bs0 ht hs) h.1 h.2
/-- A slice of one element. -/
theorem Y_bs1 {v : Value} {cs : List Value} (ht : P.underlying t = some (.slice e)) (hz : zr P e = some zv) (hs : sz P e = some s) (hx : ev F x = some v) (hc : v.cells = cs.toArray) (hl : cs.length = s) (hzs : zv.cells.size = s) (h0 : 0 < s) (h9 : s ≤ 100) :
    Yl P F (.buildSlice t 1 #[(0, x)]) (.slice (some ⟨w.heap.size, 0, none⟩) 1 1) w (w.alloc (.cells cs.toArray e)) := fun D _ _ _ _ _ => by
  subst hl
  have h1 : ¬ (2 ^ 24 < cs.length) := by omega
  have h2 : ¬ (cs.length = 0) := by omega
  have key : (cs.zipIdx.foldl (fun (a : Array Value) (p : Value × Nat) => a.setIfInBounds (0 + p.2) p.1) ((Array.range cs.length).map (zv.cells[· % zv.cells.size]!))) = cs.toArray := by
    have gen : ∀ (l : List Value) (k : Nat) (a : Array Value), k + l.length ≤ a.size → ((l.zipIdx k).foldl (fun (a : Array Value) (p : Value × Nat) => a.setIfInBounds (0 + p.2) p.1) a) = (a.toList.take k ++ l ++ a.toList.drop (k + l.length)).toArray := by
      intro l
      induction l with
      | nil => intro k a _; simp
      | cons x l ih =>
        intro k a hk
        simp only [List.zipIdx_cons, List.foldl_cons]
        rw [ih (k + 1) _ (by simp only [Array.size_setIfInBounds]; simp only [List.length_cons] at hk; omega)]
        simp only [List.length_cons] at hk
        apply Array.ext'
        simp only [Nat.zero_add, Array.toList_setIfInBounds, List.length_cons]
        rw [List.drop_set_of_lt (by omega), List.take_succ_eq_append_getElem (by simp; omega), List.take_set]
        simp only [List.getElem_set_self]
        rw [List.set_eq_of_length_le (by simp; omega)]
        simp [Nat.add_assoc, Nat.add_comm 1]
    have := gen cs 0 ((Array.range cs.length).map (zv.cells[· % zv.cells.size]!)) (by simp)
    rw [this]
    simp
  simp [execOp, Instr.buildSlice, run_underlying ht, sz_run hs, zr_run hz, ev_eval (D := D) hx, h1, h2, Instr.fill, hc, newRow]
  simp only [Nat.zero_add] at key
  rw [key]
theorem S_bs1 {v : Value} {cs : List Value} (ht : P.underlying t = some (.slice e)) (hz : zr P e = some zv) (hs : sz P e = some s) (hx : ev F x = some v) (hc : v.cells = cs.toArray) (hl : cs.length = s)
    (k : ∀ b w', w.heap.size ≤ b → Grow w w' → Blk w' b e cs.toArray → wpList P ops Q rest ⟨(F.put d (.slice (some ⟨b, 0, none⟩) 1 1)).list.toArray, D⟩ w') (hzs : zv.cells.size = s := by rfl) (h0 : 0 < s := by decide) (h9 : s ≤ 100 := by decide) :
    wpList P ops Q (⟨some d, .buildSlice t 1 #[(0, x)], ty, pos, af, none⟩ :: rest) ⟨F.list.toArray, D⟩ w :=
  S_val (Y_bs1 ht hz hs hx hc hl hzs h0 h9) (k _ _ (Nat.le_refl _) (grow_alloc _ _) (Blk.new _ _ _))
theorem E_bs1 {v : Value} {cs : List Value} (hi : ops[i]? = some ⟨some d, .buildSlice t 1 #[(0, x)], ty, pos, af, none⟩) (ht : P.underlying t = some (.slice e)) (hz : zr P e = some zv) (hs : sz P e = some s) (hx : ev F x = some v) (hc : v.cells = cs.toArray) (hl : cs.length = s)
    (k : ∀ b w', w.heap.size ≤ b → Grow w w' → Blk w' b e cs.toArray → S w' ∧ wpAnyH P .any ops Q S fuel (lst.set i true).toArray ⟨(F.put d (.slice (some ⟨b, 0, none⟩) 1 1)).list.toArray, D⟩ w') (hzs : zv.cells.size = s := by rfl) (h0 : 0 < s := by decide) (h9 : s ≤ 100 := by decide) :
    dOp P ops Q S fuel lst ⟨F.list.toArray, D⟩ w i := by
  have h := k _ _ (Nat.le_refl _) (grow_alloc _ _) (Blk.new w e cs.toArray)
  exact E_val hi (Y_bs1 ht hz hs hx hc hl hzs h0 h9) h.1 h.2
end
/-! ### words as sets -/
section
variable {P : Program} {F : Fr} {w : World} {t t' : TypeId} {x y : Operand}
theorem wrap_u64 (n : Int) : IntKind.u64.wrap n = n % 18446744073709551616 := by simp [IntKind.wrap, IntKind.bits, IntKind.signed]
theorem Y_shr {a j : Nat} (hx : ev F x = some (.int .u64 (a : Int))) (hy : ev F y = some (.int .i64 (j : Int))) (ha : a < 2 ^ 64) : Yl P F (.binOp .shr t x y t') (.int .u64 ((a >>> j : Nat) : Int)) w w := fun D _ _ _ _ _ => by
  have h0 : (0 : Int) ≤ (j : Int) := by omega
  have key : ((a : Int) / 2 ^ min j 64) = ((a >>> j : Nat) : Int) := by
    rw [Nat.shiftRight_eq_div_pow, Int.natCast_ediv]
    by_cases hj : j ≤ 64
    · rw [Nat.min_eq_left hj]
      norm_cast
    · rw [Nat.min_eq_right (by omega)]
      have h1 : a / 2 ^ 64 = 0 := Nat.div_eq_of_lt ha
      have h2 : a / 2 ^ j = 0 := Nat.div_eq_of_lt (Nat.lt_of_lt_of_le ha (Nat.pow_le_pow_right (by decide) (by omega)))
      have e1 : ((a : Int) / 2 ^ 64) = ((a / 2 ^ 64 : Nat) : Int) := by norm_cast
      have e2 : ((a : Int) / ((2 ^ j : Nat) : Int)) = ((a / 2 ^ j : Nat) : Int) := by norm_cast
      rw [e1, e2, h1, h2]
  simp [execOp, ev_eval (D := D) hx, ev_eval (D := D) hy, eqGuard_shr, binOp_shr, shift_shr_any _ _ _ _ h0, IntKind.bits]
  exact key
theorem Y_shl {a j : Nat} (hx : ev F x = some (.int .u64 (a : Int))) (hy : ev F y = some (.int .i64 (j : Int))) (ha : a * 2 ^ j < 2 ^ 64) (hj : j < 64) : Yl P F (.binOp .shl t x y t') (.int .u64 ((a * 2 ^ j : Nat) : Int)) w w := fun D _ _ _ _ _ => by
  have h0 : (0 : Int) ≤ (j : Int) := by omega
  have key : IntKind.u64.wrap ((a : Int) * 2 ^ min j 64) = ((a * 2 ^ j : Nat) : Int) := by
    rw [Nat.min_eq_left (by omega), wrap_u64]
    have e1 : ((a : Int) * 2 ^ j) = ((a * 2 ^ j : Nat) : Int) := by norm_cast
    rw [e1]
    omega
  simp [execOp, ev_eval (D := D) hx, ev_eval (D := D) hy, eqGuard_shl, binOp_shl, shift_shl_any _ _ _ _ h0, IntKind.bits]
  simpa using key
theorem bits_u64 {a : Nat} (ha : a < 2 ^ 64) : IntKind.u64.wrap (a : Int) = (a : Int) := by
  rw [wrap_u64]
  omega
theorem Y_and {a b : Nat} (hx : ev F x = some (.int .u64 (a : Int))) (hy : ev F y = some (.int .u64 (b : Int))) (ha : a < 2 ^ 64) (hb : b < 2 ^ 64) : Yl P F (.binOp .and t x y t') (.int .u64 ((a &&& b : Nat) : Int)) w w := fun D _ _ _ _ _ => by
  have e1 : a % 2 ^ 64 = a := Nat.mod_eq_of_lt ha
  have e2 : b % 2 ^ 64 = b := Nat.mod_eq_of_lt hb
  have h := bits_u64 (Nat.and_lt_two_pow (n := 64) a hb)
  have key : (Op.intBits .and .u64 (a : Int) (b : Int)) = pure (.int .u64 ((a &&& b : Nat) : Int)) := by
    have hh : (BitVec.ofNat 64 a &&& BitVec.ofNat 64 b).toNat = a &&& b := by rw [BitVec.toNat_and, BitVec.toNat_ofNat, BitVec.toNat_ofNat, e1, e2]
    simp only [Op.intBits, BitVec.ofInt_natCast, IntKind.bits]
    exact congrArg (fun z => pure (Value.int .u64 z)) ((congrArg (fun z : Nat => IntKind.u64.wrap (z : Int)) hh).trans h)
  simp [execOp, ev_eval (D := D) hx, ev_eval (D := D) hy, eqGuard_and, binOp_and, key]
theorem Y_or {a b : Nat} (hx : ev F x = some (.int .u64 (a : Int))) (hy : ev F y = some (.int .u64 (b : Int))) (ha : a < 2 ^ 64) (hb : b < 2 ^ 64) : Yl P F (.binOp .or t x y t') (.int .u64 ((a ||| b : Nat) : Int)) w w := fun D _ _ _ _ _ => by
  have e1 : a % 2 ^ 64 = a := Nat.mod_eq_of_lt ha
  have e2 : b % 2 ^ 64 = b := Nat.mod_eq_of_lt hb
  have h := bits_u64 (Nat.or_lt_two_pow (n := 64) ha hb)
  have key : (Op.intBits .or .u64 (a : Int) (b : Int)) = pure (.int .u64 ((a ||| b : Nat) : Int)) := by
    have hh : (BitVec.ofNat 64 a ||| BitVec.ofNat 64 b).toNat = a ||| b := by rw [BitVec.toNat_or, BitVec.toNat_ofNat, BitVec.toNat_ofNat, e1, e2]
    simp only [Op.intBits, BitVec.ofInt_natCast, IntKind.bits]
    exact congrArg (fun z => pure (Value.int .u64 z)) ((congrArg (fun z : Nat => IntKind.u64.wrap (z : Int)) hh).trans h)
  simp [execOp, ev_eval (D := D) hx, ev_eval (D := D) hy, eqGuard_or, binOp_or, key]
/-- The numbers that are in a and not in b. -/
def lessN (a b : Nat) : Nat := a &&& (2 ^ 64 - 1 - b)
theorem Y_andNot {a b : Nat} (hx : ev F x = some (.int .u64 (a : Int))) (hy : ev F y = some (.int .u64 (b : Int))) (ha : a < 2 ^ 64) (hb : b < 2 ^ 64) : Yl P F (.binOp .andNot t x y t') (.int .u64 ((lessN a b : Nat) : Int)) w w := fun D _ _ _ _ _ => by
  have e1 : a % 2 ^ 64 = a := Nat.mod_eq_of_lt ha
  have e2 : b % 2 ^ 64 = b := Nat.mod_eq_of_lt hb
  have hlt : lessN a b < 2 ^ 64 := Nat.lt_of_le_of_lt Nat.and_le_left ha
  have h := bits_u64 hlt
  have key : (Op.intBits .andNot .u64 (a : Int) (b : Int)) = pure (.int .u64 ((lessN a b : Nat) : Int)) := by
    have hh : (BitVec.ofNat 64 a &&& ~~~ BitVec.ofNat 64 b).toNat = lessN a b := by rw [BitVec.toNat_and, BitVec.toNat_not, BitVec.toNat_ofNat, BitVec.toNat_ofNat, e1, e2]; rfl
    simp only [Op.intBits, BitVec.ofInt_natCast, IntKind.bits]
    exact congrArg (fun z => pure (Value.int .u64 z)) ((congrArg (fun z : Nat => IntKind.u64.wrap (z : Int)) hh).trans h)
  simp [execOp, ev_eval (D := D) hx, ev_eval (D := D) hy, eqGuard_andNot, binOp_andNot, key]
theorem lessN_lt {a b : Nat} (ha : a < 2 ^ 64) : lessN a b < 2 ^ 64 := Nat.lt_of_le_of_lt Nat.and_le_left ha
theorem lessN_bit {a b i : Nat} (ha : a < 2 ^ 64) (hb : b < 2 ^ 64) : (lessN a b).testBit i = (a.testBit i && !b.testBit i) := by
  unfold lessN
  rw [Nat.testBit_and, Nat.sub_sub, Nat.add_comm 1 b, Nat.testBit_two_pow_sub_succ hb]
  by_cases hi : i < 64
  · simp [hi]
  · have : a.testBit i = false := Nat.testBit_lt_two_pow (Nat.lt_of_lt_of_le ha (Nat.pow_le_pow_right (by decide) (by omega)))
    simp [this]
/-- Add an element. -/
def addN (a i : Nat) : Nat := a ||| 2 ^ i
theorem addN_lt {a i : Nat} (ha : a < 2 ^ 64) (hi : i < 64) : addN a i < 2 ^ 64 := Nat.or_lt_two_pow ha (Nat.pow_lt_pow_right (by decide) hi)
theorem addN_bit (a i j : Nat) : (addN a i).testBit j = (a.testBit j || decide (i = j)) := by
  unfold addN
  rw [Nat.testBit_or, Nat.testBit_two_pow]
theorem shr_bit (a j : Nat) : ((a >>> j : Nat) &&& 1) = (a.testBit j).toNat := by
  rw [Nat.testBit, Nat.and_one_is_mod, Nat.one_and_eq_mod_two]
  rcases Nat.mod_two_eq_zero_or_one (a >>> j) with h | h <;> simp [h]
theorem big_bit {a i : Nat} (ha : a < 2 ^ 64) (hi : 64 ≤ i) : a.testBit i = false := Nat.testBit_lt_two_pow (Nat.lt_of_lt_of_le ha (Nat.pow_le_pow_right (by decide) hi))
end
end Go.Proofs.Ytjmfdmndchoplaa
