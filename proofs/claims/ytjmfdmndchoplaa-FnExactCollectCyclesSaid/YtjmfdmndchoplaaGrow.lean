/-
  Cells of a heap that is being built, one cell after the other.
  Conditions: none.
-/
import Derived.Test.YtjmfdmndchoplaaMark
import Derived.Test.YtjmfdmndchoplaaView
namespace Go.Proofs.Ytjmfdmndchoplaa
open Go Go.RowKit

section
variable {Pr Pr' S : Nat → Prop} {w w' : World} {e : TypeId} {s n cap : Nat} {A : Option Addr} {us : List Value}
theorem OW.self (h : OW Pr w e s A n cap us) : OW (fun i => A = some ⟨i, 0, none⟩) w e s A n cap us := by
  refine ⟨h.1, ?_⟩
  rcases h.2 with a | ⟨g, cur, h1, _, h3⟩
  · exact .inl a
  · exact .inr ⟨g, cur, h1, h1, h3⟩
theorem OW.pr (h : OW Pr w e s A n cap us) {b : Nat} (hA : A = some ⟨b, 0, none⟩) : Pr b := by
  rcases h.2 with ⟨h1, _⟩ | ⟨g, cur, h1, h2, _⟩
  · rw [hA] at h1; cases h1
  · rw [hA] at h1
    cases h1
    exact h2
theorem OW.isBlk (h : OW Pr w e s A n cap us) {b : Nat} (hA : A = some ⟨b, 0, none⟩) : ∃ cur, Blk w b e cur := by
  rcases h.2 with ⟨h1, _⟩ | ⟨g, cur, h1, _, h3, _⟩
  · rw [hA] at h1; cases h1
  · rw [hA] at h1
    cases h1
    exact ⟨cur, h3⟩
/-- A row that was made with room, and no element. -/
theorem OW.room {b : Nat} {z : List Value} (h : Blk w b e (zeros z cap).toArray) (hz : z.length = s) (hn : cap ≤ maxLen) (hp : Pr b) : OW Pr w e s (some ⟨b, 0, none⟩) 0 cap [] :=
  ⟨by simp, .inr ⟨b, _, rfl, hp, h, Nat.zero_le _, hn, by simp [zeros_len, hz], by simp⟩⟩
end
section
variable {P : Program} {ops : Array Oper} {Q : Exit → Act → World → Prop} {S : World → Prop} {rest : List Oper} {fuel : Nat} {lst : List Bool} {F : Fr} {D : List Deferred} {w : World}
  {d : Tmp} {ty : TypeId} {pos : String} {af : Array Edge} {e t : TypeId} {x y : Operand} {zv : Value} {s by_ n cap m c i : Nat} {A A2 : Option Addr} {us news : List Value} {Pr Pr' : Nat → Prop}
theorem Y_app2 (ht : P.underlying t = some (.slice e)) (hz : zr P e = some zv) (hs : sz P e = some s) (hb : byt P e = some by_) (hx : ev F x = some (.slice A n cap)) (hy : ev F y = some (.slice A2 m c))
    (O : OW Pr w e s A n cap us) (hl : news.length = m * s) (hsrc : Src w A2 m news) (h1 : ∀ u ∈ news, u.oneCell' = true) (hlen : n + m ≤ 1099511627776)
    (hp : ∀ k, Pr k → Pr' k) (hn : Pr' w.heap.size) (hzs : zv.cells.size = s) (h0 : 0 < s) (h9 : by_ ≤ 100) :
    ∃ A' cap' w', Yl P F (.call ⟨.builtin .append, #[x, y], #[t, t]⟩) (.slice A' (n + m) cap') w w' ∧ OW Pr' w' e s A' (n + m) cap' (us ++ news) ∧ Mod Pr w w' ∧ Mod (fun i => A = some ⟨i, 0, none⟩) w w' := by
  obtain ⟨A', cap', w', hy', ho, hm⟩ := Y_app (Pr' := fun i => A = some ⟨i, 0, none⟩ ∨ i = w.heap.size) ht hz hs hb hx hy O.self hl hsrc h1 hlen (fun _ h => .inl h) (.inr rfl) hzs h0 h9
  exact ⟨A', cap', w', hy', ho.weak (fun k hk => hk.elim (fun h => hp k (O.pr h)) (fun h => h ▸ hn)), hm.weak (fun k hk _ => O.pr hk), hm⟩
theorem S_app2 (ht : P.underlying t = some (.slice e)) (hz : zr P e = some zv) (hs : sz P e = some s) (hb : byt P e = some by_) (hx : ev F x = some (.slice A n cap)) (hy : ev F y = some (.slice A2 m c))
    (O : OW Pr w e s A n cap us) (hl : news.length = m * s) (hsrc : Src w A2 m news) (h1 : ∀ u ∈ news, u.oneCell' = true) (hlen : n + m ≤ 1099511627776)
    (hp : ∀ k, Pr k → Pr' k) (hn : Pr' w.heap.size)
    (k : ∀ A' cap' w', OW Pr' w' e s A' (n + m) cap' (us ++ news) → Mod Pr w w' → Mod (fun i => A = some ⟨i, 0, none⟩) w w' → wpList P ops Q rest ⟨(F.put d (.slice A' (n + m) cap')).list.toArray, D⟩ w') (hzs : zv.cells.size = s := by rfl) (h0 : 0 < s := by decide) (h9 : by_ ≤ 100 := by decide) :
    wpList P ops Q (⟨some d, .call ⟨.builtin .append, #[x, y], #[t, t]⟩, ty, pos, af, none⟩ :: rest) ⟨F.list.toArray, D⟩ w := by
  obtain ⟨A', cap', w', hy', ho, hm, hm2⟩ := Y_app2 ht hz hs hb hx hy O hl hsrc h1 hlen hp hn hzs h0 h9
  exact S_val hy' (k _ _ _ ho hm hm2)
theorem E_app2 (hi : ops[i]? = some ⟨some d, .call ⟨.builtin .append, #[x, y], #[t, t]⟩, ty, pos, af, none⟩) (ht : P.underlying t = some (.slice e)) (hz : zr P e = some zv) (hs : sz P e = some s) (hb : byt P e = some by_) (hx : ev F x = some (.slice A n cap)) (hy : ev F y = some (.slice A2 m c))
    (O : OW Pr w e s A n cap us) (hl : news.length = m * s) (hsrc : Src w A2 m news) (h1 : ∀ u ∈ news, u.oneCell' = true) (hlen : n + m ≤ 1099511627776)
    (hp : ∀ k, Pr k → Pr' k) (hn : Pr' w.heap.size)
    (k : ∀ A' cap' w', OW Pr' w' e s A' (n + m) cap' (us ++ news) → Mod Pr w w' → Mod (fun i => A = some ⟨i, 0, none⟩) w w' → S w' ∧ wpAnyH P .any ops Q S fuel (lst.set i true).toArray ⟨(F.put d (.slice A' (n + m) cap')).list.toArray, D⟩ w') (hzs : zv.cells.size = s := by rfl) (h0 : 0 < s := by decide) (h9 : by_ ≤ 100 := by decide) :
    dOp P ops Q S fuel lst ⟨F.list.toArray, D⟩ w i := by
  obtain ⟨A', cap', w', hy', ho, hm, hm2⟩ := Y_app2 ht hz hs hb hx hy O hl hsrc h1 hlen hp hn hzs h0 h9
  have h := k _ _ _ ho hm hm2
  exact E_val hi hy' h.1 h.2
end
section
variable {Pr Pr' Pc : Nat → Prop} {w w' : World} {eC eI : TypeId} {cs : List LC} {rs : List (Option Addr × Nat)} {s n cap : Nat} {A : Option Addr} {us : List Value}
/-- The row of cells was made longer: the rows of references are as before. -/
theorem ORs.app (h : ORs Pr w eI cs rs) (O : OW Pc w eC s A n cap us) (hne : eC ≠ eI) (m : Mod (fun i => A = some ⟨i, 0, none⟩) w w') : ORs Pr w' eI cs rs :=
  ⟨h.len, fun j x q hx hq hn => by
    obtain ⟨b, post, hA, hp, hB⟩ := h.own j x q hx hq hn
    exact ⟨b, post, hA, hp, hB.mod m (fun e0 => by
      obtain ⟨cur, hc⟩ := O.isBlk e0
      exact hc.ne hB hne rfl)⟩, h.far⟩
theorem OI.app {B : Option Addr} {xs : List Value} (h : OI Pr w eI B xs) (O : OW Pc w eC s A n cap us) (hne : eC ≠ eI) (m : Mod (fun i => A = some ⟨i, 0, none⟩) w w') : OI Pr w' eI B xs :=
  h.keep m (fun b hb hn e0 => by
    obtain ⟨cur, hc⟩ := O.isBlk e0
    obtain ⟨b', _, e1, _, hB⟩ := h hn
    rw [hb] at e1
    cases e1
    exact hc.ne hB hne rfl)
/-- One more cell. -/
theorem ORs.more {c : LC} {B : Option Addr} {q bc lo : Nat} (h : ORs Pr w eI cs rs) (hr : OW (fun i => lo ≤ i) w eI 1 B q bc (ints c.refs)) (hp : ∀ k, Pr k → k < lo) (hw : ∀ k, Pr k → Pr' k) (hl : ∀ k, lo ≤ k → Pr' k) : ORs Pr' w eI (cs ++ [c]) (rs ++ [(B, bc)]) :=
  h.snoc (hr.oi.weak hl) hw (fun k b hk hB e => by
    have h1 := hp k hk
    have h2 : lo ≤ b := hr.pr hB
    omega)
theorem flat_more {c : LC} {B : Option Addr} {bc : Nat} (h : rs.length = cs.length) : flatC cs rs ++ [.bool c.used, .int .i64 c.data, .slice B c.refs.length bc] = flatC (cs ++ [c]) (rs ++ [(B, bc)]) := by
  rw [flatC_app h]
  rfl
theorem OC.grown (O : OW Pc w eC 3 A cs.length cap (flatC cs rs)) (h : ORs Pr w eI cs rs) (h1 : ∀ k, Pc k → Pr' k) (h2 : ∀ k, Pr k → Pr' k) : OC Pr' w eC eI A cs rs :=
  ⟨h.weak h2, fun hn => by
    obtain ⟨b, post, hA, hp, hB⟩ := O.blk (fun e => by
      have := congrArg List.length e
      rw [flatC_len h.len] at this
      simp only [List.length_nil] at this
      exact hn (List.eq_nil_of_length_eq_zero (by omega)))
    exact ⟨b, post, hA, h1 b hp, hB⟩⟩
end
/-- The heap that has the cells o, in this order. -/
def gcell (cs : List LC) (o : List Int) (x : Int) : LC := match cs[x.toNat]? with
  | some c => ⟨true, c.data, c.refs.map (nameIn o)⟩
  | none => ⟨true, 0, []⟩
theorem gcell_at {cs : List LC} {o : List Int} {n : Nat} (h : n < cs.length) : gcell cs o (n : Int) = ⟨true, cs[n].data, cs[n].refs.map (nameIn o)⟩ := by simp [gcell, h]
def gathH (h : LH) (o : List Int) : LH := ⟨o.map (gcell h.cells o), h.roots.map (nameIn o)⟩
theorem gath_succ {h : LH} {o : List Int} {k n : Nat} (hk : k < o.length) (hn : o[k] = (n : Int)) (hN : n < h.cells.length) : (o.take (k + 1)).map (gcell h.cells o) = (o.take k).map (gcell h.cells o) ++ [⟨true, h.cells[n].data, h.cells[n].refs.map (nameIn o)⟩] := by
  rw [List.take_succ_eq_append_getElem hk, List.map_append, hn, List.map_singleton, gcell_at hN]
theorem rsum_le3 : ∀ (cs : List LC) (k : Nat), (∀ c ∈ cs, c.refs.length ≤ 3) → rsum cs k ≤ 3 * k
  | cs, 0, _ => by simp [rsum]
  | cs, k + 1, h => by
    have ih := rsum_le3 cs k h
    by_cases hk : k < cs.length
    · rw [rsum_succ hk]
      have := h cs[k] (List.getElem_mem hk)
      omega
    · have e : rsum cs (k + 1) = rsum cs k := by
        unfold rsum
        rw [List.take_of_length_le (by omega), List.take_of_length_le (by omega)]
      omega
theorem hsize_small {h : LH} (h1 : h.cells.length ≤ 40) (h2 : ∀ c ∈ h.cells, c.refs.length ≤ 3) (h3 : h.roots.length ≤ 4) : hsize h ≤ 200 := by
  have := rsum_le3 h.cells h.cells.length h2
  unfold hsize
  omega
theorem Valid.small {h : LH} (v : Valid h) : hsize h ≤ 200 := hsize_small v.le (fun c hc => by
  obtain ⟨n, hn, rfl⟩ := List.getElem_of_mem hc
  exact v.refs3 hn) (by rw [v.roots4]; omega)
theorem gath_small {h : LH} (v : Valid h) {o : List Int} (hb : Bnd h.cells.length o) : hsize (gathH h o) ≤ 200 := by
  have hl := hb.len
  have h40 := v.le
  refine hsize_small (by simp [gathH]; omega) (fun c hc => ?_) (by simp [gathH, v.roots4])
  simp only [gathH, List.mem_map] at hc
  obtain ⟨x, hx, rfl⟩ := hc
  have h0 := hb.2 x hx
  obtain ⟨n, rfl⟩ := Int.eq_ofNat_of_zero_le h0.1
  have hn : n < h.cells.length := by omega
  rw [gcell_at hn]
  simp
  exact v.refs3 hn
def nilH : LH := ⟨[], []⟩
theorem OH.nil (Pr : Nat → Prop) (w : World) (eC eI : TypeId) (A B : Option Addr) : OH Pr w eC eI A B nilH [] := ⟨OC.nil _ _ _ _ _, OI.nil _ _ _ _, fun i c r h => by simp [nilH] at h⟩
def copyV (h : LH) : LH := if validB h = true then gathH h (orderL h.cells h.roots nn) else nilH
theorem copyV_t {h : LH} (hv : validB h = true) : copyV h = gathH h (orderL h.cells h.roots nn) := if_pos hv
theorem copyV_f {h : LH} (hv : validB h = false) : copyV h = nilH := if_neg (by simp [hv])
theorem copyV_small (h : LH) : hsize (copyV h) ≤ 200 := by
  cases hv : validB h with
  | true => rw [copyV_t hv]; exact gath_small (valid_iff.1 hv) (orderL_bnd (valid_iff.1 hv).leads)
  | false => rw [copyV_f hv]; decide
def slideV (h : LH) : LH := if validB h = true then gathH h (slideL h) else nilH
theorem slideV_t {h : LH} (hv : validB h = true) : slideV h = gathH h (slideL h) := if_pos hv
theorem slideV_f {h : LH} (hv : validB h = false) : slideV h = nilH := if_neg (by simp [hv])
theorem slideV_small (h : LH) : hsize (slideV h) ≤ 200 := by
  cases hv : validB h with
  | true => rw [slideV_t hv]; exact gath_small (valid_iff.1 hv) (selL_bnd _ _)
  | false => rw [slideV_f hv]; decide
end Go.Proofs.Ytjmfdmndchoplaa
