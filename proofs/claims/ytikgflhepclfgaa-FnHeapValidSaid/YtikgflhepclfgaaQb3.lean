/-
  Walks through functions of the program and the reference, and the plain laws behind them: what one claim needs of them.
  Conditions: those that each theorem states.
-/
import Derived.Test.YtikgflhepclfgaaQb2
set_option linter.unusedVariables false
set_option linter.unusedSimpArgs false
namespace Go.Proofs.Ytikgflhepclfgaa
/-! Stp -/
section
open Go
theorem leadsB_mono {cs cs' : List LC} (h : ∀ n, usedAt cs n = true → usedAt cs' n = true) {r : Int} (hr : leadsB cs r = true) : leadsB cs' r = true := by
  unfold leadsB at *
  by_cases h1 : r = -1
  · simp [h1]
  · simp only [h1, decide_false, Bool.false_or, Bool.and_eq_true, decide_eq_true_eq] at hr ⊢
    exact ⟨hr.1, h _ hr.2⟩
theorem usedAt_set {cs : List LC} {k : Nat} {c : LC} (hc : c.used = true) {n : Nat} (h : usedAt cs n = true) : usedAt (cs.set k c) n = true := by
  have hn := usedAt_lt h
  unfold usedAt at *
  by_cases hk : k = n
  · subst hk
    simp [hn, hc]
  · rw [List.getElem?_set_ne hk]
    exact h
theorem usedAt_app {cs : List LC} {c : LC} {n : Nat} (h : usedAt cs n = true) : usedAt (cs ++ [c]) n = true := by
  have hn := usedAt_lt h
  unfold usedAt at *
  rw [List.getElem?_append_left hn]
  exact h
theorem okP_mono {cs cs' : List LC} (h : ∀ n, usedAt cs n = true → usedAt cs' n = true) {c : LC} (hc : okP cs c) : okP cs' c := ⟨fun hu => by
  obtain ⟨h1, h2⟩ := hc.1 hu
  exact ⟨List.all_eq_true.2 fun r hr => leadsB_mono h (List.all_eq_true.1 h1 r hr), h2⟩, hc.2⟩
theorem valid_setRoot {h : LH} (v : Valid h) {k : Nat} {x : Int} (hx : leadsB h.cells x = true) : Valid ⟨h.cells, h.roots.set k x⟩ :=
  ⟨v.le, by show (h.roots.set k x).length = 4; rw [List.length_set]; exact v.roots4, v.cells, fun r hr => by
    rcases List.mem_or_eq_of_mem_set hr with hr | rfl
    · exact v.roots r hr
    · exact hx⟩
theorem valid_setCell {h : LH} (v : Valid h) {k : Nat} {c : LC} (hu : c.used = true) (hr : ∀ r ∈ c.refs, leadsB h.cells r = true) (hd : 0 ≤ c.data ∧ c.data ≤ 99) (h3 : c.refs.length ≤ 3) : Valid ⟨h.cells.set k c, h.roots⟩ := by
  have hm : ∀ n, usedAt h.cells n = true → usedAt (h.cells.set k c) n = true := fun n => usedAt_set hu
  refine ⟨by show (h.cells.set k c).length ≤ 40; rw [List.length_set]; exact v.le, v.roots4, fun n hn => ?_, fun r hr => leadsB_mono hm (v.roots r hr)⟩
  have hn2 : n < h.cells.length := by have : n < (h.cells.set k c).length := hn; rwa [List.length_set] at this
  show okP (h.cells.set k c) (h.cells.set k c)[n]
  rw [List.getElem_set]
  split
  · exact (okP_u hu).2 ⟨List.all_eq_true.2 fun r hr2 => leadsB_mono hm (hr r hr2), hd.1, hd.2, h3⟩
  · exact okP_mono hm (v.cells n hn2)
theorem valid_addCell {h : LH} (v : Valid h) (h40 : h.cells.length < 40) {c : LC} (hu : c.used = true) (hr : ∀ r ∈ c.refs, leadsB h.cells r = true) (hd : 0 ≤ c.data ∧ c.data ≤ 99) (h3 : c.refs.length ≤ 3) : Valid ⟨h.cells ++ [c], h.roots⟩ := by
  have hm : ∀ n, usedAt h.cells n = true → usedAt (h.cells ++ [c]) n = true := fun n => usedAt_app
  refine ⟨by show (h.cells ++ [c]).length ≤ 40; rw [List.length_append]; simp; omega, v.roots4, fun n hn => ?_, fun r hr => leadsB_mono hm (v.roots r hr)⟩
  show okP (h.cells ++ [c]) (h.cells ++ [c])[n]
  by_cases hn2 : n < h.cells.length
  · rw [List.getElem_append_left hn2]
    exact okP_mono hm (v.cells n hn2)
  · rw [List.getElem_append_right (by omega)]
    simp only [List.getElem_singleton]
    exact (okP_u hu).2 ⟨List.all_eq_true.2 fun r hr2 => leadsB_mono hm (hr r hr2), hd.1, hd.2, h3⟩
theorem leadsB_last {cs : List LC} {c : LC} (hu : c.used = true) : leadsB (cs ++ [c]) (cs.length : Int) = true := by
  rw [leadsB_at (by simp)]
  simpa using hu
theorem leadsB_put {cs : List LC} {k : Nat} {c : LC} (hk : k < cs.length) (hu : c.used = true) : leadsB (cs.set k c) (k : Int) = true := by
  rw [leadsB_at (by rw [List.length_set]; exact hk)]
  simpa using hu
theorem rep_leads (cs : List LC) (n : Nat) : ∀ r ∈ List.replicate n (-1 : Int), leadsB cs r = true := fun r hr => by
  rw [(List.mem_replicate.1 hr).2]
  exact leadsB_m1 _
/-- A new cell behind the last one. -/
theorem valid_new {h : LH} (v : Valid h) (h40 : h.cells.length < 40) {k n : Nat} {d : Int} (hd : 0 ≤ d ∧ d ≤ 99) (h3 : n ≤ 3) : Valid ⟨h.cells ++ [⟨true, d, List.replicate n (-1)⟩], h.roots.set k (h.cells.length : Int)⟩ :=
  valid_setRoot (h := ⟨h.cells ++ [⟨true, d, List.replicate n (-1)⟩], h.roots⟩) (valid_addCell v h40 rfl (rep_leads _ _) hd (by simp; omega)) (leadsB_last rfl)
/-- A new cell at a place. -/
theorem valid_newAt {h : LH} (v : Valid h) {p k n : Nat} (hp : p < h.cells.length) {d : Int} (hd : 0 ≤ d ∧ d ≤ 99) (h3 : n ≤ 3) : Valid ⟨h.cells.set p ⟨true, d, List.replicate n (-1)⟩, h.roots.set k (p : Int)⟩ :=
  valid_setRoot (h := ⟨h.cells.set p ⟨true, d, List.replicate n (-1)⟩, h.roots⟩) (valid_setCell v rfl (rep_leads _ _) hd (by simp; omega)) (leadsB_put hp rfl)
theorem root_used {h : LH} (v : Valid h) {n m : Nat} (hn : n < h.roots.length) (hm : h.roots[n] = (m : Int)) (hmN : m < h.cells.length) : h.cells[m].used = true := by
  have h1 := v.roots _ (List.getElem_mem hn)
  rw [hm, leadsB_at hmN] at h1
  exact h1
theorem valid_setRef {h : LH} (v : Valid h) {m j : Nat} {x : Int} (hm : m < h.cells.length) (hu : h.cells[m].used = true) (hx : leadsB h.cells x = true) : Valid ⟨h.cells.set m ⟨h.cells[m].used, h.cells[m].data, h.cells[m].refs.set j x⟩, h.roots⟩ := by
  have ho := (okP_u hu).1 (v.cells m hm)
  refine valid_setCell v hu (fun r hr => ?_) ⟨ho.2.1, ho.2.2.1⟩ (by show (h.cells[m].refs.set j x).length ≤ 3; rw [List.length_set]; exact ho.2.2.2)
  rcases List.mem_or_eq_of_mem_set hr with hr | rfl
  · exact List.all_eq_true.1 ho.1 r hr
  · exact hx
theorem valid_setData {h : LH} (v : Valid h) {m : Nat} {x : Int} (hm : m < h.cells.length) (hu : h.cells[m].used = true) (hx : 0 ≤ x ∧ x ≤ 99) : Valid ⟨h.cells.set m ⟨h.cells[m].used, x, h.cells[m].refs⟩, h.roots⟩ := by
  have ho := (okP_u hu).1 (v.cells m hm)
  exact valid_setCell v hu (fun r hr => List.all_eq_true.1 ho.1 r hr) hx ho.2.2.2
end
/-! Cyc -/
section
open Go
theorem refsAll_mem {h : LH} {sk : Nat → Bool} {r : Int} : r ∈ refsAll h sk ↔ r ∈ h.roots ∨ ∃ i, i < h.cells.length ∧ sk i = false ∧ r ∈ refsOf h.cells i := by
  unfold refsAll refsUp
  rw [List.mem_append, List.mem_flatMap]
  constructor
  · rintro (hr | ⟨i, hi, hr⟩)
    · exact .inl hr
    · split at hr
      · cases hr
      · rename_i hs
        exact .inr ⟨i, by simpa using hi, by simpa using hs, hr⟩
  · rintro (hr | ⟨i, hi, hs, hr⟩)
    · exact .inl hr
    · exact .inr ⟨i, by simpa using hi, by simp [hs, hr]⟩
theorem inB_lt {bs : List Bool} {i : Nat} (h : inB bs i = true) : i < bs.length := by
  unfold inB at h
  by_cases hi : i < bs.length
  · exact hi
  · rw [List.getElem?_eq_none (by omega)] at h
    cases h
theorem SubC.trans {a b c : List LC} {ra rb rc : List (Option Addr × Nat)} (h1 : SubC a ra b rb) (h2 : SubC b rb c rc) : SubC a ra c rc := fun i x r hx hr hn => by
  obtain ⟨p, q⟩ := h1 i x r hx hr hn
  exact h2 i x r p q hn
end
/-! Walk -/
section
open Go
/-- Walk from the reference r on; s is what was met before. -/
def dw1 (cs : List LC) : Nat → List Int → Int → List Int
  | 0, s, _ => s
  | f + 1, s, r => if 0 ≤ r ∧ r ∉ s then (refsOf cs r.toNat).foldl (dw1 cs f) (s ++ [r]) else s
theorem dw1_old {cs : List LC} {f : Nat} {s : List Int} {r : Int} (h : ¬ (0 ≤ r ∧ r ∉ s)) : dw1 cs f s r = s := by
  cases f with
  | zero => rfl
  | succ f => exact if_neg h
theorem dw1_new {cs : List LC} {f n : Nat} {s : List Int} (h : (n : Int) ∉ s) : dw1 cs (f + 1) s (n : Int) = (refsOf cs n).foldl (dw1 cs f) (s ++ [(n : Int)]) := by
  unfold dw1
  rw [if_pos ⟨by omega, h⟩]
  rfl
theorem foldl_inv {α β : Type} {p : β → β → Prop} {q : β → Prop} {g : β → α → β} {ok : α → Prop} (hr : ∀ b, p b b) (ht : ∀ a b c, p a b → p b c → p a c) (hg : ∀ b x, ok x → q b → p b (g b x) ∧ q (g b x)) :
    ∀ (l : List α) (b : β), (∀ x ∈ l, ok x) → q b → p b (l.foldl g b) ∧ q (l.foldl g b)
  | [], b, _, hq => ⟨hr b, hq⟩
  | x :: l, b, hl, hq => by
    obtain ⟨h1, h2⟩ := hg b x (hl x (by simp)) hq
    obtain ⟨h3, h4⟩ := foldl_inv hr ht hg l (g b x) (fun y hy => hl y (by simp [hy])) h2
    exact ⟨ht _ _ _ h1 h3, h4⟩
def RefOk (N : Nat) (x : Int) : Prop := nn x = true → 0 ≤ x ∧ x < (N : Int)
theorem Bnd.snoc {N n : Nat} {s : List Int} (h : Bnd N s) (hn : n < N) (hs : (n : Int) ∉ s) : Bnd N (s ++ [(n : Int)]) := by
  refine ⟨?_, fun x hx => ?_⟩
  · rw [List.nodup_append]
    refine ⟨h.1, by simp, ?_⟩
    intro a ha b hb
    simp only [List.mem_singleton] at hb
    subst hb
    rintro rfl
    exact hs ha
  · rcases List.mem_append.1 hx with hx | hx
    · exact h.2 x hx
    · simp only [List.mem_singleton] at hx
      omega
theorem dw1_bnd {cs : List LC} {fr : List Int} (hl : Leads cs fr nn) : ∀ (f : Nat) (s : List Int) (r : Int), RefOk cs.length r → Bnd cs.length s → s.length ≤ (dw1 cs f s r).length ∧ Bnd cs.length (dw1 cs f s r)
  | 0, s, _, _, h => ⟨Nat.le_refl _, h⟩
  | f + 1, s, r, hr, h => by
    by_cases hc : 0 ≤ r ∧ r ∉ s
    · obtain ⟨n, rfl⟩ := Int.eq_ofNat_of_zero_le hc.1
      rw [dw1_new hc.2]
      have hn := (hr (by simp [nn])).2
      have hb := h.snoc (by omega) hc.2
      obtain ⟨h1, h2⟩ := foldl_inv (p := fun (a b : List Int) => a.length ≤ b.length) (q := Bnd cs.length) (g := dw1 cs f) (ok := RefOk cs.length) (fun _ => Nat.le_refl _) (fun _ _ _ => Nat.le_trans) (fun b x hx hb => dw1_bnd hl f b x hx hb) (refsOf cs n) _ (fun x hx ho => hl.2 _ x hx ho) hb
      exact ⟨by rw [List.length_append] at h1; omega, h2⟩
    · rw [dw1_old hc]
      exact ⟨Nat.le_refl _, h⟩
theorem dws_bnd {cs : List LC} {fr : List Int} (hl : Leads cs fr nn) (f : Nat) {s xs : List Int} (hx : ∀ x ∈ xs, RefOk cs.length x) (hb : Bnd cs.length s) : s.length ≤ (xs.foldl (dw1 cs f) s).length ∧ Bnd cs.length (xs.foldl (dw1 cs f) s) :=
  foldl_inv (p := fun (a b : List Int) => a.length ≤ b.length) (q := Bnd cs.length) (g := dw1 cs f) (ok := RefOk cs.length) (fun _ => Nat.le_refl _) (fun _ _ _ => Nat.le_trans) (fun b x hx hb => dw1_bnd hl f b x hx hb) xs _ hx hb
theorem foldl_succ {β : Type} {g : β → Int → β} {b : β} {xs : List Int} {k : Nat} (h : k < xs.length) : (xs.take (k + 1)).foldl g b = g ((xs.take k).foldl g b) xs[k] := by
  rw [List.take_succ_eq_append_getElem h, List.foldl_append]
  rfl
/-- There is fuel where there is a cell that was not met. -/
theorem fuel_pos {N f n : Nat} {s : List Int} (hb : Bnd N s) (hn : n < N) (hs : (n : Int) ∉ s) (hf : N ≤ f + s.length) : ∃ f', f = f' + 1 ∧ N ≤ f' + (s ++ [(n : Int)]).length := by
  have := (hb.snoc hn hs).len
  rw [List.length_append] at this ⊢
  simp only [List.length_cons, List.length_nil] at this ⊢
  exact ⟨f - 1, by omega, by omega⟩
def depthV (h : LH) : List Int := if validB h = true then h.roots.foldl (dw1 h.cells h.cells.length) [] else []
theorem depthV_t {h : LH} (hv : validB h = true) : depthV h = h.roots.foldl (dw1 h.cells h.cells.length) [] := if_pos hv
theorem depthV_f {h : LH} (hv : validB h = false) : depthV h = [] := if_neg (by simp [hv])
theorem depthV_len (h : LH) : (depthV h).length ≤ h.cells.length := by
  cases hv : validB h with
  | true =>
    rw [depthV_t hv]
    have hl := (valid_iff.1 hv).leads
    exact (dws_bnd hl _ (fun x hx ho => hl.1 x hx ho) (Bnd.nil _)).2.len
  | false => rw [depthV_f hv]; exact Nat.zero_le _
end
/-! Rea -/
section
open Go
theorem rB_iff {h : LH} (v : Valid h) {n : Nat} : rB h n = true ↔ Rch h.cells h.roots nn n := by
  unfold rB
  rw [decide_eq_true_eq]
  exact orderL_mem v.leads
theorem nn_nat (n : Nat) : nn (n : Int) = true := by simp [nn]
theorem rB_root {h : LH} (v : Valid h) {n : Nat} (hr : (n : Int) ∈ h.roots) : rB h n = true := (rB_iff v).2 (.root hr (nn_nat n))
theorem rB_step {h : LH} (v : Valid h) {m n : Nat} (hm : rB h m = true) (hr : (n : Int) ∈ refsOf h.cells m) : rB h n = true := (rB_iff v).2 (.step ((rB_iff v).1 hm) hr (nn_nat n))
theorem rB_lt {h : LH} (v : Valid h) {n : Nat} (hm : rB h n = true) : n < h.cells.length := ((rB_iff v).1 hm).lt v.leads
theorem rch_usedAt {cs : List LC} {fr : List Int} {ok : Int → Bool} (hl : LeadsU cs fr) {n : Nat} (h : Rch cs fr ok n) : usedAt cs n = true := by
  cases h with
  | root h1 _ => exact leadsB_used (hl.1 _ h1)
  | step _ h1 _ => exact leadsB_used (hl.2 _ _ h1)
theorem rB_used {h : LH} (v : Valid h) {n : Nat} (hm : rB h n = true) : usedAt h.cells n = true := rch_usedAt v.leadsU ((rB_iff v).1 hm)
theorem rch_trans {cs : List LC} {fr : List Int} {ok : Int → Bool} {n m : Nat} (h1 : Rch cs fr ok n) (h2 : Rch cs [(n : Int)] ok m) : Rch cs fr ok m := by
  induction h2 with
  | @root k a b =>
    simp only [List.mem_singleton] at a
    have : k = n := by exact Int.ofNat.inj a
    subst this
    exact h1
  | step _ a b ih => exact .step ih a b
theorem reachV_at {h : LH} (hv : validB h = true) {n : Nat} (hn : n < (reachV h).length) : (reachV h)[n] = rB h n := by
  have e := rB_reach hv (n := n) (by rw [reachV_len hv] at hn; exact hn)
  rw [List.getElem?_eq_getElem hn] at e
  exact Option.some.inj e
theorem order_bnd {h : LH} (v : Valid h) : Bnd h.cells.length (orderL h.cells h.roots nn) := orderL_bnd v.leads
theorem rB_mem {h : LH} {n : Nat} : rB h n = true ↔ (n : Int) ∈ orderL h.cells h.roots nn := by unfold rB; rw [decide_eq_true_eq]
theorem Bnd.full {N n : Nat} {s : List Int} (h : Bnd N s) (hl : N ≤ s.length) (hn : n < N) : (n : Int) ∈ s := by
  by_cases hs : (n : Int) ∈ s
  · exact hs
  · have := (h.snoc hn hs).len
    rw [List.length_append] at this
    simp at this
    omega
/-- t has all of s, and what is new in t leads on into t. -/
def Cl (cs : List LC) (s t : List Int) : Prop := (∀ x ∈ s, x ∈ t) ∧ ∀ n : Nat, (n : Int) ∈ t → (n : Int) ∉ s → ∀ y ∈ refsOf cs n, nn y = true → y ∈ t
theorem Cl.refl (cs : List LC) (s : List Int) : Cl cs s s := ⟨fun _ h => h, fun _ h hn => absurd h hn⟩
theorem Cl.trans {cs : List LC} {s t u : List Int} (h : Cl cs s t) (k : Cl cs t u) : Cl cs s u := ⟨fun x hx => k.1 x (h.1 x hx), fun n hn hs y hy ho => by
  by_cases ht : (n : Int) ∈ t
  · exact k.1 _ (h.2 n ht hs y hy ho)
  · exact k.2 n hn ht y hy ho⟩
theorem cl_fold {cs : List LC} {fr : List Int} (hl : Leads cs fr nn) {f : Nat} (ih : ∀ (s : List Int) (r : Int), RefOk cs.length r → Bnd cs.length s → cs.length ≤ f + s.length → Cl cs s (dw1 cs f s r) ∧ (nn r = true → r ∈ dw1 cs f s r)) :
    ∀ (xs s : List Int), (∀ x ∈ xs, RefOk cs.length x) → Bnd cs.length s → cs.length ≤ f + s.length → Cl cs s (xs.foldl (dw1 cs f) s) ∧ ∀ x ∈ xs, nn x = true → x ∈ xs.foldl (dw1 cs f) s
  | [], s, _, _, _ => ⟨Cl.refl _ _, fun x hx => by cases hx⟩
  | x :: xs, s, hx, hb, hf => by
    obtain ⟨h1, h2⟩ := ih s x (hx x (by simp)) hb hf
    obtain ⟨h3, h4⟩ := dw1_bnd hl f s x (hx x (by simp)) hb
    obtain ⟨h5, h6⟩ := cl_fold hl ih xs (dw1 cs f s x) (fun y hy => hx y (by simp [hy])) h4 (by omega)
    refine ⟨h1.trans h5, fun y hy ho => ?_⟩
    rcases List.mem_cons.1 hy with rfl | hy
    · exact h5.1 _ (h2 ho)
    · exact h6 y hy ho
theorem cl_walk {cs : List LC} {fr : List Int} (hl : Leads cs fr nn) : ∀ (f : Nat) (s : List Int) (r : Int), RefOk cs.length r → Bnd cs.length s → cs.length ≤ f + s.length → Cl cs s (dw1 cs f s r) ∧ (nn r = true → r ∈ dw1 cs f s r)
  | 0, s, r, hr, hb, hf => ⟨Cl.refl _ _, fun ho => by
    have h1 := hr ho
    obtain ⟨n, rfl⟩ := Int.eq_ofNat_of_zero_le h1.1
    exact hb.full (by omega) (by omega)⟩
  | f + 1, s, r, hr, hb, hf => by
    by_cases hc : 0 ≤ r ∧ r ∉ s
    · obtain ⟨n, rfl⟩ := Int.eq_ofNat_of_zero_le hc.1
      have hn := (hr (nn_nat n)).2
      have hb2 := hb.snoc (by omega) hc.2
      rw [dw1_new hc.2]
      obtain ⟨h1, h2⟩ := cl_fold hl (cl_walk hl f) (refsOf cs n) (s ++ [(n : Int)]) (fun x hx ho => hl.2 _ x hx ho) hb2 (by rw [List.length_append]; simp; omega)
      refine ⟨⟨fun x hx => h1.1 x (by simp [hx]), fun m hm hs y hy ho => ?_⟩, fun _ => h1.1 _ (by simp)⟩
      by_cases he : m = n
      · subst he
        exact h2 y hy ho
      · exact h1.2 m hm (by simp [hs]; omega) y hy ho
    · rw [dw1_old hc]
      refine ⟨Cl.refl _ _, fun ho => ?_⟩
      by_cases hs : r ∈ s
      · exact hs
      · exact absurd ⟨nn_pos ho, hs⟩ hc
/-- All of s can be reached. -/
def Snd (cs : List LC) (fr s : List Int) : Prop := ∀ n : Nat, (n : Int) ∈ s → Rch cs fr nn n
theorem snd_fold {cs : List LC} {fr : List Int} {f : Nat} (ih : ∀ (s : List Int) (r : Int), (∀ n : Nat, r = (n : Int) → Rch cs fr nn n) → Snd cs fr s → Snd cs fr (dw1 cs f s r)) :
    ∀ (xs s : List Int), (∀ x ∈ xs, ∀ n : Nat, x = (n : Int) → Rch cs fr nn n) → Snd cs fr s → Snd cs fr (xs.foldl (dw1 cs f) s)
  | [], _, _, hs => hs
  | x :: xs, s, hx, hs => snd_fold ih xs _ (fun y hy => hx y (by simp [hy])) (ih s x (hx x (by simp)) hs)
theorem snd_walk {cs : List LC} {fr : List Int} : ∀ (f : Nat) (s : List Int) (r : Int), (∀ n : Nat, r = (n : Int) → Rch cs fr nn n) → Snd cs fr s → Snd cs fr (dw1 cs f s r)
  | 0, _, _, _, hs => hs
  | f + 1, s, r, hr, hs => by
    by_cases hc : 0 ≤ r ∧ r ∉ s
    · obtain ⟨n, rfl⟩ := Int.eq_ofNat_of_zero_le hc.1
      rw [dw1_new hc.2]
      refine snd_fold (snd_walk f) _ _ (fun x hx m hm => ?_) (fun m hm => ?_)
      · subst hm
        exact .step (hr n rfl) hx (nn_nat m)
      · rcases List.mem_append.1 hm with hm | hm
        · exact hs m hm
        · simp only [List.mem_singleton] at hm
          have : m = n := by exact Int.ofNat.inj hm
          subst this
          exact hr m rfl
    · rw [dw1_old hc]
      exact hs
theorem depth_mem {h : LH} (v : Valid h) {n : Nat} : (n : Int) ∈ h.roots.foldl (dw1 h.cells h.cells.length) [] ↔ Rch h.cells h.roots nn n := by
  have hl := v.leads
  constructor
  · refine snd_fold (snd_walk _) _ _ (fun x hx m hm => ?_) (fun m hm => by cases hm) n
    subst hm
    exact .root hx (nn_nat m)
  · obtain ⟨h1, h2⟩ := cl_fold hl (cl_walk hl h.cells.length) h.roots [] (fun x hx ho => hl.1 x hx ho) (Bnd.nil _) (by simp)
    intro hr
    induction hr with
    | root a b => exact h2 _ a b
    | step _ a b ih => exact h1.2 _ ih (by simp) _ a b
theorem depth_bnd {h : LH} (v : Valid h) : Bnd h.cells.length (h.roots.foldl (dw1 h.cells h.cells.length) []) := (dws_bnd v.leads _ (fun x hx ho => v.leads.1 x hx ho) (Bnd.nil _)).2
theorem bnd_len_eq {N : Nat} {s t : List Int} (hs : Bnd N s) (ht : Bnd N t) (h : ∀ n : Nat, (n : Int) ∈ s ↔ (n : Int) ∈ t) : s.length = t.length := by
  rw [← cnt N s hs, ← cnt N t ht]
  congr 1
  apply List.filter_congr
  intro i _
  rw [decide_eq_decide]
  exact h i
theorem depth_order_len {h : LH} (v : Valid h) : (h.roots.foldl (dw1 h.cells h.cells.length) []).length = (orderL h.cells h.roots nn).length :=
  bnd_len_eq (depth_bnd v) (order_bnd v) fun n => by rw [depth_mem v, orderL_mem v.leads]
theorem dw1_pre (cs : List LC) : ∀ (f : Nat) (s : List Int) (r : Int), ∃ t, dw1 cs f s r = s ++ t
  | 0, s, r => ⟨[], by simp [dw1]⟩
  | f + 1, s, r => by
    by_cases hc : 0 ≤ r ∧ r ∉ s
    · unfold dw1
      rw [if_pos hc]
      have : ∀ (xs s : List Int), ∃ t, xs.foldl (dw1 cs f) s = s ++ t := by
        intro xs
        induction xs with
        | nil => exact fun s => ⟨[], by simp⟩
        | cons x xs ih =>
          intro s
          obtain ⟨t, ht⟩ := dw1_pre cs f s x
          obtain ⟨u, hu⟩ := ih (dw1 cs f s x)
          exact ⟨t ++ u, by rw [List.foldl_cons, hu, ht, List.append_assoc]⟩
      obtain ⟨t, ht⟩ := this (refsOf cs r.toNat) (s ++ [r])
      exact ⟨r :: t, by rw [ht]; simp⟩
    · rw [dw1_old hc]
      exact ⟨[], by simp⟩
theorem dws_pre (cs : List LC) (f : Nat) : ∀ (xs s : List Int), ∃ t, xs.foldl (dw1 cs f) s = s ++ t
  | [], s => ⟨[], by simp⟩
  | x :: xs, s => by
    obtain ⟨t, ht⟩ := dw1_pre cs f s x
    obtain ⟨u, hu⟩ := dws_pre cs f xs (dw1 cs f s x)
    exact ⟨t ++ u, by rw [List.foldl_cons, hu, ht, List.append_assoc]⟩
theorem bfs_pre (cs : List LC) (ok : Int → Bool) : ∀ (f i : Nat) (s : List Int), ∃ t, bfs cs ok f i s = s ++ t
  | 0, _, s => ⟨[], by simp [bfs]⟩
  | f + 1, i, s => by
    unfold bfs
    split
    · exact ⟨[], by simp⟩
    · rename_i x _
      obtain ⟨t, ht⟩ := meet_pre ok (refsOf cs x.toNat) s
      obtain ⟨u, hu⟩ := bfs_pre cs ok f (i + 1) (meet ok s (refsOf cs x.toNat))
      exact ⟨t ++ u, by rw [hu, ht, List.append_assoc]⟩
/-- The first cell that is met is the first root that is one. -/
theorem depth_head (cs : List LC) (f : Nat) : ∀ (rs : List Int), (rs.foldl (dw1 cs (f + 1)) []).head? = rs.find? nn
  | [] => rfl
  | r :: rs => by
    by_cases hr : 0 ≤ r
    · rw [List.foldl_cons, List.find?_cons_of_pos (nn_of hr)]
      obtain ⟨t, ht⟩ := dws_pre cs (f + 1) rs (dw1 cs (f + 1) [] r)
      have e : dw1 cs (f + 1) [] r = (refsOf cs r.toNat).foldl (dw1 cs f) ([] ++ [r]) := if_pos ⟨hr, by simp⟩
      obtain ⟨u, hu⟩ := dws_pre cs f (refsOf cs r.toNat) ([] ++ [r])
      rw [ht, e, hu]
      simp
    · rw [List.foldl_cons, List.find?_cons_of_neg (by rw [nn_no hr]; decide), dw1_old (fun h => hr h.1)]
      exact depth_head cs f rs
theorem meet_head : ∀ (rs : List Int), (meet nn [] rs).head? = rs.find? nn
  | [] => rfl
  | r :: rs => by
    unfold meet
    rw [List.foldl_cons]
    by_cases hr : 0 ≤ r
    · rw [List.find?_cons_of_pos (nn_of hr), meet1_new (nn_of hr) (by simp)]
      obtain ⟨t, ht⟩ := meet_pre nn rs ([] ++ [r])
      unfold meet at ht
      rw [ht]
      simp
    · rw [List.find?_cons_of_neg (by rw [nn_no hr]; decide), meet1_not (nn_no hr)]
      exact meet_head rs
theorem bfs_head {cs : List LC} : ∀ (f i : Nat) (s : List Int), s ≠ [] → (bfs cs nn f i s).head? = s.head? := fun f i s hs => by
  obtain ⟨t, ht⟩ := bfs_pre cs nn f i s
  rw [ht]
  cases s with
  | nil => exact absurd rfl hs
  | cons a s => rfl
theorem order_head (cs : List LC) (rs : List Int) : (orderL cs rs nn).head? = rs.find? nn := by
  unfold orderL
  rw [← meet_head]
  by_cases hs : meet nn [] rs = []
  · rw [hs, bfs_end (by simp)]
  · exact bfs_head _ _ _ hs
theorem depth_first {h : LH} (v : Valid h) : (h.roots.foldl (dw1 h.cells h.cells.length) []).head? = (orderL h.cells h.roots nn).head? := by
  rw [order_head]
  cases hn : h.cells.length with
  | zero =>
    have h0 : ∀ r ∈ h.roots, nn r = false := fun r hr => by
      cases ho : nn r with
      | false => rfl
      | true => have := v.leads.1 r hr ho; omega
    have e1 := depth_bnd v
    rw [hn] at e1
    have e2 := e1.len
    rw [List.eq_nil_of_length_eq_zero (by omega : (h.roots.foldl (dw1 h.cells 0) []).length = 0), List.find?_eq_none.2 (fun r hr => by rw [h0 r hr]; decide)]
    rfl
  | succ f => exact depth_head _ _ _
/-- No cell that can be reached is freed. -/
def Spares (h : LH) (p : Nat → Bool) : Prop := ∀ n, rB h n = true → p n = false
/-- What cannot be reached is what the marks leave out. -/
theorem sweepP_reach {h : LH} (hv : validB h = true) {i : Nat} (hi : i < h.cells.length) : sweepP (reachV h) i = !rB h i := by
  unfold sweepP
  rw [inB_at (by rw [reachV_len hv]; exact hi), reachV_at hv]
theorem spares_reach {h : LH} (v : Valid h) : Spares h (sweepP (reachV h)) := fun n hn => by rw [sweepP_reach (valid_iff.2 v) (rB_lt v hn), hn]; rfl
theorem keeps_reach {h : LH} (v : Valid h) : Keeps h (sweepP (reachV h)) := by
  have hv := valid_iff.2 v
  refine ⟨fun r hr hc => ?_, fun n hn r hr hc => ?_⟩
  · obtain ⟨m, rfl⟩ := Int.eq_ofNat_of_zero_le hc.1
    have h1 := rB_root v hr
    rw [Int.toNat_natCast, spares_reach v m h1] at hc
    exact absurd hc.2 (by decide)
  · obtain ⟨m, rfl⟩ := Int.eq_ofNat_of_zero_le hc.1
    by_cases hN : n < h.cells.length
    · rw [sweepP_reach hv hN] at hn
      have h1 := rB_step v (by simpa using hn) hr
      rw [Int.toNat_natCast, spares_reach v m h1] at hc
      exact absurd hc.2 (by decide)
    · simp [refsOf, List.getElem?_eq_none (by omega : h.cells.length ≤ n)] at hr
end
/-! Gat -/
section
open Go
/-- o lists the cells that can be reached, each once. -/
structure Cov (h : LH) (o : List Int) : Prop where
  v : Valid h
  bnd : Bnd h.cells.length o
  mem : ∀ n : Nat, (n : Int) ∈ o ↔ rB h n = true
end
/-! Hof -/
section
open Go
theorem cntP_sel (N : Nat) (p : Nat → Bool) : (selL N p).length = cntP p N := by
  unfold selL cntP
  rw [List.length_map, List.countP_eq_length_filter]
theorem countB_cnt {bs : List Bool} {p : Nat → Bool} {N : Nat} (hl : bs.length = N) (h : ∀ (i : Nat) (hi : i < bs.length), bs[i] = p i) : countB bs = cntP p N := by
  have e : bs = (List.range N).map p := by
    apply List.ext_getElem
    · simp [hl]
    · intro i h1 h2
      rw [h i h1]
      simp
  unfold countB cntP
  rw [e, List.countP_map]
  rfl
theorem countB_used (cs : List LC) : countB (usedL cs) = cntP (usedAt cs) cs.length := countB_cnt (by simp [usedL]) (fun i hi => by
  have hi2 : i < cs.length := by simpa [usedL] using hi
  rw [usedAt_at hi2]
  simp [usedL])
theorem countB_reach {h : LH} (hv : validB h = true) : countB (reachV h) = cntP (rB h) h.cells.length := countB_cnt (reachV_len hv) (fun _ hi => reachV_at hv hi)
theorem order_cnt {h : LH} (v : Valid h) : (orderL h.cells h.roots nn).length = cntP (rB h) h.cells.length := by
  rw [← cntP_sel]
  exact bnd_len_eq (order_bnd v) (selL_bnd _ _) fun n => by
    rw [← rB_mem, selL_mem]
    constructor
    · intro hn
      exact ⟨n, rfl, rB_lt v hn, hn⟩
    · rintro ⟨m, e, _, hm⟩
      have : n = m := by exact Int.ofNat.inj e
      subst this
      exact hm
theorem cntP_add {p q r : Nat → Bool} {N : Nat} (h : ∀ i, i < N → (p i = true ↔ (q i = true ∨ r i = true)) ∧ ¬ (q i = true ∧ r i = true)) : cntP p N = cntP q N + cntP r N := by
  induction N with
  | zero => rfl
  | succ N ih =>
    have ih := ih (fun i hi => h i (by omega))
    obtain ⟨h1, h2⟩ := h N (by omega)
    cases hq : q N with
    | true =>
      have hp : p N = true := h1.2 (.inl hq)
      have hr : r N = false := by
        cases hr : r N with
        | false => rfl
        | true => exact absurd ⟨hq, hr⟩ h2
      rw [cntP_yes hp, cntP_yes hq, cntP_no hr]
      omega
    | false =>
      cases hr : r N with
      | true => rw [cntP_yes (h1.2 (.inr hr)), cntP_no hq, cntP_yes hr]; omega
      | false =>
        have hp : p N = false := by
          cases hp : p N with
          | false => rfl
          | true =>
            rcases h1.1 hp with h3 | h3
            · rw [hq] at h3; cases h3
            · rw [hr] at h3; cases h3
        rw [cntP_no hp, cntP_no hq, cntP_no hr]
        omega
theorem used_split {h : LH} (v : Valid h) : cntP (usedAt h.cells) h.cells.length = cntP (rB h) h.cells.length + cntP (leakP h) h.cells.length := cntP_add fun i _ => by
  unfold leakP
  cases hr : rB h i with
  | true => have := rB_used v hr; simp [this]
  | false => simp
theorem usedV_eq {h : LH} (v : Valid h) : usedV h = (((cntP (usedAt h.cells) h.cells.length : Nat) : Int), ((cntP (rB h) h.cells.length : Nat) : Int)) := by
  have hv := valid_iff.2 v
  rw [usedV_t hv, countB_used, countB_reach hv]
theorem leakV_eq {h : LH} (v : Valid h) : (leakV h).length = cntP (leakP h) h.cells.length := by rw [leakV_t (valid_iff.2 v), cntP_sel]
end
/-! Col -/
section
open Go
theorem from_mem {h : LH} (v : Valid h) {k i : Nat} (hk : k < h.cells.length) : inB (fromM h k) i = true ↔ Rch h.cells [(k : Int)] nn i := by
  have hl := leads_one v hk
  by_cases hi : i < h.cells.length
  · rw [inB_at (by rw [fromM_len]; exact hi)]
    have e := fromM_get (h := h) (n := k) hi
    rw [List.getElem?_eq_getElem (by rw [fromM_len]; exact hi)] at e
    rw [Option.some.inj e, decide_eq_true_eq, orderL_mem hl]
  · constructor
    · intro hb
      have := inB_lt hb
      rw [fromM_len] at this
      exact absurd this hi
    · intro hr
      exact absurd (hr.lt hl) hi
theorem rB_trans {h : LH} (v : Valid h) {n m : Nat} (h1 : rB h n = true) (h2 : Rch h.cells [(n : Int)] nn m) : rB h m = true := (rB_iff v).2 (rch_trans ((rB_iff v).1 h1) h2)
def sweptH (h : LH) : LH := dropH h (sweepP (reachV h))
theorem swept_eq {h : LH} (v : Valid h) : sweepV h (reachV h) = (sweptH h, ((cntP (leakP h) h.cells.length : Nat) : Int)) := by
  have hv := valid_iff.2 v
  rw [sweepV_t hv (reachV_len hv) ((valid_drop v _).2 (keeps_reach v))]
  have : cntP (sweepN h (reachV h)) h.cells.length = cntP (leakP h) h.cells.length := cntP_congr fun i hi => by
    unfold sweepN leakP
    rw [sweepP_reach hv hi]
  rw [this]
  rfl
theorem swept_valid {h : LH} (v : Valid h) : Valid (sweptH h) := valid_iff.1 ((valid_drop v _).2 (keeps_reach v))
def csum (xs : List Int) (k : Nat) : Nat := ((List.range k).map fun (i : Nat) => xs.count (i : Int)).sum
theorem csum_succ (xs : List Int) (k : Nat) : csum xs (k + 1) = csum xs k + xs.count (k : Int) := by simp [csum, List.range_succ]
theorem csum_cons (x : Int) (xs : List Int) : ∀ k, csum (x :: xs) k = csum xs k + (if 0 ≤ x ∧ x < (k : Int) then 1 else 0)
  | 0 => by
    have : ¬ (0 ≤ x ∧ x < ((0 : Nat) : Int)) := by omega
    rw [if_neg this]
    rfl
  | k + 1 => by
    rw [csum_succ, csum_succ, csum_cons x xs k, List.count_cons]
    by_cases h1 : x = (k : Int)
    · have h3 : (x == (k : Int)) = true := by simpa using h1
      have h4 : ¬ (0 ≤ x ∧ x < (k : Int)) := by omega
      have h5 : 0 ≤ x ∧ x < ((k + 1 : Nat) : Int) := by omega
      rw [h3, if_neg h4, if_pos h5, if_pos rfl]
      omega
    · have h3 : (x == (k : Int)) = false := by simpa using h1
      rw [h3]
      by_cases h2 : 0 ≤ x ∧ x < (k : Int)
      · have h5 : 0 ≤ x ∧ x < ((k + 1 : Nat) : Int) := by omega
        rw [if_pos h2, if_pos h5, if_neg (by decide)]
        omega
      · have h5 : ¬ (0 ≤ x ∧ x < ((k + 1 : Nat) : Int)) := by omega
        rw [if_neg h2, if_neg h5, if_neg (by decide)]
        omega
theorem csum_nil (k : Nat) : csum [] k = 0 := by
  induction k with
  | zero => rfl
  | succ n ih => rw [csum_succ, ih]; rfl
theorem csum_all {N : Nat} : ∀ {xs : List Int}, (∀ x ∈ xs, nn x = true → x < (N : Int)) → csum xs N = xs.countP nn
  | [], _ => csum_nil N
  | x :: xs, h => by
    rw [csum_cons, csum_all (fun y hy => h y (by simp [hy])), List.countP_cons]
    by_cases hx : 0 ≤ x
    · have := h x (by simp) (nn_of hx)
      rw [if_pos ⟨hx, this⟩, nn_of hx]
      rfl
    · rw [if_neg (fun h => hx h.1), nn_no hx]
      rfl
theorem csum_le (xs : List Int) (k : Nat) : csum xs k ≤ xs.length := by
  induction xs with
  | nil => rw [csum_nil]; exact Nat.zero_le _
  | cons x xs ih =>
    rw [csum_cons, List.length_cons]
    split <;> omega
end
/-! Sm -/
section
open Go
/-- At most 40 cells, each with at most three references; four roots. -/
structure Sm (h : LH) : Prop where
  le : h.cells.length ≤ 40
  three : ∀ c ∈ h.cells, c.refs.length ≤ 3
  four : h.roots.length = 4
theorem Valid.sm {h : LH} (v : Valid h) : Sm h := ⟨v.le, fun c hc => by
  obtain ⟨n, hn, rfl⟩ := List.getElem_of_mem hc
  exact v.refs3 hn, v.roots4⟩
theorem sm_of {h : LH} (h1 : h.cells.length ≤ 41) (h2 : ∀ c ∈ h.cells, c.refs.length ≤ 3) (h3 : h.roots.length ≤ 4) : hsize h ≤ 300 := by
  have := rsum_le3 h.cells h.cells.length h2
  unfold hsize
  omega
theorem Sm.size {h : LH} (s : Sm h) : hsize h ≤ 300 := sm_of (by have := s.le; omega) s.three (by rw [s.four]; omega)
theorem Sm.rest {h : LH} (s : Sm h) : hsize ⟨h.cells, h.roots.drop 1⟩ ≤ 300 := sm_of (by have := s.le; show h.cells.length ≤ 41; omega) s.three (by show (h.roots.drop 1).length ≤ 4; rw [List.length_drop, s.four]; omega)
theorem Sm.root {h : LH} (s : Sm h) (k : Nat) (x : Int) : hsize ⟨h.cells, h.roots.set k x⟩ ≤ 300 := sm_of (by have := s.le; show h.cells.length ≤ 41; omega) s.three (by show (h.roots.set k x).length ≤ 4; rw [List.length_set, s.four]; omega)
theorem Sm.more {h : LH} (s : Sm h) {z : LC} (hz : z.refs.length ≤ 3) : hsize ⟨h.cells ++ [z], h.roots⟩ ≤ 300 := sm_of (by have := s.le; show (h.cells ++ [z]).length ≤ 41; rw [List.length_append]; simp; omega) (fun c hc => by
  rcases List.mem_append.1 (show c ∈ h.cells ++ [z] from hc) with hc | hc
  · exact s.three c hc
  · simp only [List.mem_singleton] at hc
    rw [hc]
    exact hz) (by show h.roots.length ≤ 4; rw [s.four]; omega)
theorem Sm.ref {h : LH} (s : Sm h) {i : Nat} (hi : i < h.cells.length) (j : Nat) (x : Int) : Sm ⟨h.cells.set i ⟨h.cells[i].used, h.cells[i].data, h.cells[i].refs.set j x⟩, h.roots⟩ := ⟨by show (h.cells.set i _).length ≤ 40; rw [List.length_set]; exact s.le, fun c hc => by
  rcases List.mem_or_eq_of_mem_set (show c ∈ h.cells.set i _ from hc) with hc | rfl
  · exact s.three c hc
  · show (h.cells[i].refs.set j x).length ≤ 3
    rw [List.length_set]
    exact s.three _ (List.getElem_mem hi), s.four⟩
theorem Sm.swept {h : LH} (v : Valid h) : Sm (sweepV h (reachV h)).1 := by
  rw [swept_eq v]
  exact (swept_valid v).sm
theorem Blk.pickI {w : World} {b : Nat} {e : TypeId} {l : List Int} {k : Nat} (B : Blk w b e (ints l).toArray) (hk : k < l.length) : ∃ x : Int, w.cell? ⟨b, 0 + k * 1, none⟩ = some (.int .i64 x) := by
  refine ⟨l[k], ?_⟩
  rw [Nat.zero_add, Nat.mul_one]
  exact B.at (by rw [List.getElem?_toArray]; exact ints_get (List.getElem?_eq_getElem hk))
theorem flatO_last (l : List LCmd) (o : LCmd) : flatO (l ++ [o]) = flatO l ++ cmdC o := by rw [flatO_app, flatO, flatO, List.append_nil]
theorem flatO_take (l : List LCmd) (k : Nat) : (flatO l).take (k * 4) = flatO (l.take k) := by
  by_cases hk : k ≤ l.length
  · have e : flatO l = flatO (l.take k) ++ flatO (l.drop k) := by rw [← flatO_app, List.take_append_drop]
    rw [e, List.take_left']
    rw [flatO_len, List.length_take]
    omega
  · rw [List.take_of_length_le (by rw [flatO_len]; omega), List.take_of_length_le (by omega)]
theorem flatO_rep (o : LCmd) : ∀ n : Nat, flatO (List.replicate n o) = zeros (cmdC o) n
  | 0 => rfl
  | n + 1 => by rw [List.replicate_succ, flatO, flatO_rep o n]; rfl
theorem RO.of_ow {Pr : Nat → Prop} {w : World} {e : TypeId} {A : Option Addr} {n cap : Nat} {l : List LCmd} (O : OW Pr w e 4 A n cap (flatO l)) : RO Pr w A l := fun k o hk => by
  have hl := (List.getElem?_eq_some_iff.1 hk).1
  obtain ⟨b, post, rfl, hp, hB⟩ := O.blk (fun e0 => by
    have := flatO_len l
    rw [e0] at this
    simp at this
    omega)
  exact RO.of_blk hB hp k o hk
theorem all_snoc {α : Type} {p : α → Bool} {l : List α} {o : α} (h : l.all p = true) (ho : p o = true) : (l ++ [o]).all p = true := by
  rw [List.all_append, h]
  simp [ho]
end
/-! WalkDp -/
section
open Go Go.RowKit
attribute [local irreducible] wpList wpAnyH Code.wp dOp
set_option maxHeartbeats 1000000 in
set_option maxRecDepth 20000 in
theorem spec_l20Program_c (bR p : Nat) (n : Int) (w : World) (RD : Rd w bR p) (hp : p ≤ 800000) (hn : n ≤ 9223372036854775807) :
    Calls Try.prog 63 #[.pointer (some ⟨bR, 0, none⟩), .int .i64 n] w (Ret fun v w' => ∃ (l : List LCmd) (A1 : Option Addr) (q cap p2 : Nat), v = .slice A1 q cap ∧ q = l.length ∧ q ≤ cap ∧ l.length ≤ 41 ∧ (n ≤ 0 → csB l = true) ∧ p2 ≤ p + 700 ∧ RO (fun i => w.heap.size ≤ i) w' A1 l ∧ Rd w' bR p2 ∧ Mod (fun i => i = bR) w w') := by
 have lbR := RD.lt
 obtain ⟨z0, hz0⟩ : ∃ x, x = w.heap.size := ⟨_, rfl⟩
 refine enter Try.func63 rfl Try.ntmps63 (L := [_,_,_,_,_,_,_,_,_,_,_,_,_,_,_,_,_,_,_,_,_,_,_,_,_,_,_,_,_,_,_,_,_,_,_,_]) rfl ?_
 have G := Mod.refl (fun i => i = bR) w
 refine wp_seq_k fun K1 hK1 => ?_
 refine Sb 36 rfl ?_  -- 0
 refine S_val (Y_assign rfl) ?_
 refine S_nl rfl rfl ?_
 refine th_n (hK1 _ _ ?_)
 clear hK1 K1
 refine wp_seq_k fun K2 hK2 => ?_
 refine Sb 36 rfl ?_  -- 1
 refine S_bs0 Try.underlying29 sz24 ?_
 intro b1 w1 fb1 g1 B1
 have lb1 := B1.lt
 replace RD := RD.grow g1
 replace G := G.grow g1
 have zg1 := g1.size
 refine S_val (Y_assign rfl) ?_
 refine S_nl rfl rfl ?_
 refine th_n (hK2 _ _ ?_)
 clear hK2 K2
 refine wp_seq_k fun K3 hK3 => ?_
 refine wp_seq_k fun K4 hK4 => ?_
 refine Sb 36 rfl ?_  -- 2
 refine S_val (Y_move rfl) ?_
 refine S_call rfl en92 (spec_l20Rd_pick_c _ _ _ _ RD (by omega) (by omega)) ?_  -- k1 (*spec.l20Rd).pick
 rintro v2 w2 ⟨k2, rfl, hk2, RD2, m2⟩
 obtain ⟨k0, rfl⟩ : ∃ x, x = k2 := ⟨_, rfl⟩
 have hk0 := hk2 (by decide)
 replace RD := RD2
 clear RD2
 replace G := Mod.trans' G m2 (fun _ h _ => h) (fun i h hl => by first | exact h | omega | (dsimp only at h ⊢; omega))
 replace B1 := B1.md m2
 have zm2 := m2.size
 refine S_val (Y_assign rfl) ?_
 refine S_nl rfl rfl ?_
 refine th_n (hK4 _ _ ?_)
 clear hK4 K4
 refine wp_block ?_
 have O1 : OW (fun i => w.heap.size ≤ i) w2 24 4 (some ⟨b1, 0, none⟩) 0 0 (flatO []) := OW.of_blk B1 rfl (by decide) (by first | omega | (dsimp only; omega))
 go_loopw [5, 6] (fun u5 u6 wr => (∃ (k q cap pp : Nat) (A1 : Option Addr) (l : List LCmd), u6 = .int .i64 k ∧ u5 = .slice A1 q cap ∧ q = l.length ∧ l.length + k ≤ 40 ∧ l.all cvB = true ∧ pp ≤ p + 1 + 16 * l.length ∧ Rd wr bR pp ∧ OW (fun i => w.heap.size ≤ i) wr 24 4 A1 q cap (flatO l)) ∧ Mod (fun i => i = bR ∨ w.heap.size ≤ i) w2 wr) (fun u5 u6 wr => (intOf u6).toNat)  -- L1
 case atStart =>
  refine ⟨?_, Mod.refl _ _⟩
  exact ⟨k0, 0, 0, p + 1, _, [], rfl, rfl, rfl, by simp; omega, rfl, by omega, RD, O1⟩
 case round =>
  obtain ⟨w3, rfl⟩ : ∃ x : World, x = wr := ⟨_, rfl⟩
  obtain ⟨hrel, g3⟩ := hrel
  clear O1
  clear RD
  replace G := Mod.trans' G g3 (fun _ h _ => h) (fun i h hl => by first | exact h | omega | (dsimp only at h ⊢; omega))
  have zg3 := g3.size
  obtain ⟨k, q1, cap1, pp, A1, l, rfl, rfl, hq1, hlk, hall, hpp, RD, O1⟩ := hrel
  have GL3 := g3
  refine wp_seq_k fun K5 hK5 => ?_
  refine wp_seq_k fun K6 hK6 => ?_
  refine Sb 36 rfl ?_  -- 3
  refine S_val (Y_move rfl) ?_
  refine S_val (Y_gtr rfl rfl) ?_
  refine S_nl rfl rfl ?_
  refine th_n (hK6 _ _ ?_)
  clear hK6 K6
  refine S_if rfl (fun hb1 => ?_) (fun hb1 => ?_)  -- c1
  · -- c1T
   replace hb1 := nb_tt hb1
   have hk0 : 0 < k := by omega
   refine wp_skip ?_
   refine th_n (hK5 _ _ ?_)
   clear hK5 K5
   refine wp_seq_k fun K7 hK7 => ?_
   refine wp_block ?_
   refine Sb 36 rfl ?_  -- 5
   refine S_val (Y_move rfl) ?_
   refine S_val (Y_move rfl) ?_
   refine S_call rfl en58 (spec_l20Command_c _ _ _ _ RD (by omega) (by omega)) ?_  -- k2 spec.l20Command
   rintro v4 w4 ⟨o4, p4, rfl, ho4, hp4, RD4, m4⟩
   obtain ⟨oN, rfl⟩ : ∃ x, x = o4 := ⟨_, rfl⟩
   have hoN := ho4
   have hpN := hp4
   replace RD := RD4
   clear RD4
   replace G := Mod.trans' G m4 (fun _ h _ => h) (fun i h hl => by first | exact h | omega | (dsimp only at h ⊢; omega))
   replace GL3 := GL3.trn m4
   replace O1 := O1.md m4
   have zm4 := m4.size
   refine S_bs1 (cs := [_, _, _, _]) Try.underlying29 zr24 sz24 rfl rfl rfl ?_
   intro b5 w5 fb5 g5 B5
   have lb5 := B5.lt
   replace O1 := O1.grow g5
   replace RD := RD.grow g5
   replace G := G.grow g5
   replace GL3 := GL3.grow g5
   have zg5 := g5.size
   refine S_app Try.underlying29 zr24 sz24 by24 rfl rfl O1 rfl (Src.blk B5) (by simp [Value.oneCell', cmdC]) (by omega) (Pr' := (fun i => w.heap.size ≤ i)) (fun i hi => by first | exact hi | omega | (dsimp only at hi ⊢; omega)) (by first | omega | (dsimp only; omega)) ?_
   intro A6 cap6 w6 X6 m6
   replace O1 := X6
   clear X6
   replace G := Mod.trans' G m6 (fun _ h _ => h) (fun i h hl => by first | exact h | omega | (dsimp only at h ⊢; omega))
   replace GL3 := GL3.trn m6
   replace RD := RD.md m6
   have zm6 := m6.size
   replace O1 : OW (fun i => w.heap.size ≤ i) w6 24 4 A6 (q1 + 1) cap6 (flatO (l ++ [oN])) := by rw [flatO_last]; exact O1
   refine S_val (Y_assign rfl) ?_
   refine S_nl rfl rfl ?_
   refine ib_n ?_
   refine th_n (hK7 _ _ ?_)
   clear hK7 K7
   refine Sb 36 rfl ?_  -- 4
   refine S_val (Y_move rfl) ?_
   refine S_val (Y_sub (c := ((k - 1 : Nat) : Int)) rfl rfl (by omega) (by omega) (by omega)) ?_
   refine S_val (Y_assign rfl) ?_
   refine S_nl rfl rfl ?_
   refine th_n ?_
   go_roundw  -- e1 of L1
   case rel =>
    refine ⟨?_, GL3⟩
    exact ⟨k - 1, _, _, _, _, l ++ [oN], rfl, rfl, by rw [hq1, List.length_append]; rfl, by rw [List.length_append]; simp; omega, all_snoc hall (hoN (by decide)), by rw [List.length_append]; simp; omega, RD, O1⟩
   case measure =>
    exact dec_nat (by omega)
  · -- c1F
   replace hb1 := nb_tf hb1
   have hcs0 : csB l = true := by unfold csB; rw [decide_eq_true_eq]; exact ⟨by omega, hall⟩
   have hqc := O1.cap
   have hl40 : l.length ≤ 41 := by omega
   obtain ⟨lF, hlF⟩ : ∃ x, x = l := ⟨_, rfl⟩
   rw [← hlF] at hcs0 hl40 O1 hq1
   have hcsF : n ≤ 0 → csB lF = true := fun _ => hcs0
   refine wp_exit ?_
   refine th_x ?_
   try clear GL3
   refine th_x ?_
   refine ib_e ?_
   refine th_n (hK3 _ _ ?_)
   clear hK5 K5 hK3 K3
   refine wp_seq_k fun K8 hK8 => ?_
   refine wp_seq_k fun K9 hK9 => ?_
   refine Sb 36 rfl ?_  -- 6
   refine S_val (Y_move rfl) ?_
   refine S_val (Y_move rfl) ?_
   refine S_call rfl en93 (spec_l20Rd_odd_c _ _ _ _ RD (by omega) (by omega)) ?_  -- k3 (*spec.l20Rd).odd
   rintro v7 w7 ⟨r7, p7, rfl, hr7, hp7, RD7, m7⟩
   obtain ⟨r9, rfl⟩ : ∃ x, x = r7 := ⟨_, rfl⟩
   have hr9 := hr7
   replace RD := RD7
   clear RD7
   replace G := Mod.trans' G m7 (fun _ h _ => h) (fun i h hl => by first | exact h | omega | (dsimp only at h ⊢; omega))
   replace O1 := O1.md m7
   have zm7 := m7.size
   refine S_nl rfl rfl ?_
   refine th_n (hK9 _ _ ?_)
   clear hK9 K9
   refine S_if rfl (fun hb2 => ?_) (fun hb2 => ?_)  -- c2
   · -- c2T
    first | with_reducible (replace hb2 := nb_nt hb2) | with_reducible (replace hb2 := nb_tt hb2) | with_reducible (replace hb2 := nb_bt hb2) | skip
    refine wp_seq_k fun K10 hK10 => ?_
    refine Sb 36 rfl ?_  -- 7
    refine S_val (Y_move rfl) ?_
    refine S_call rfl en92 (spec_l20Rd_pick_c _ _ _ _ RD (by omega) (by omega)) ?_  -- k4 (*spec.l20Rd).pick
    rintro v8 w8 ⟨k8, rfl, hk8, RD8, m8⟩
    obtain ⟨k1, rfl⟩ : ∃ x, x = k8 := ⟨_, rfl⟩
    have hk1 := hk8 (by decide)
    replace RD := RD8
    clear RD8
    replace G := Mod.trans' G m8 (fun _ h _ => h) (fun i h hl => by first | exact h | omega | (dsimp only at h ⊢; omega))
    replace O1 := O1.md m8
    have zm8 := m8.size
    refine S_val (Y_eql rfl rfl) ?_
    refine S_nl rfl rfl ?_
    refine th_n (hK10 _ _ ?_)
    clear hK10 K10
    refine S_if rfl (fun hb3 => ?_) (fun hb3 => ?_)  -- c3
    · -- c3T
     replace hb3 := nb_tt hb3
     refine D_start 10 36 (fun w => Mod (fun i => i = bR ∨ z0 ≤ i) w) follows rfl rfl ?_  -- d1 r8
     intro w9 g9
     replace O1 := O1.grow g9
     replace RD := RD.grow g9
     replace G := G.grow g9
     have zg9 := g9.size
     have GS9 := Mod.refl (fun i => i = bR ∨ z0 ≤ i) w9
     refine Dq (i := 0) rfl GS9 (fun _ _ => Y_move rfl) ?_
     refine Dq (i := 1) rfl GS9 (fun _ _ => Y_move rfl) ?_
     refine Dq (i := 2) rfl GS9 (fun _ _ => Y_len Try.underlying29 rfl) ?_
     refine Dq (i := 5) rfl GS9 (fun _ _ => Y_move rfl) ?_
     refine D_2 (i := 3) (j := 6) (by kernel_rfl) ?_ ?_
     · -- operation 3 comes up
      refine E_val (i := 3) rfl (Y_minN (b := 9) rfl rfl) GS9 ?_
      refine Dq (i := 4) rfl GS9 (fun _ _ => Y_sliceH Try.underlying29 sz24 rfl (j := min q1 9) rfl (by omega)) ?_
      refine D_1 (i := 6) (by kernel_rfl) ?_
      refine E_call rfl rfl en58 (spec_l20Command_c _ _ _ _ RD (by omega) (by omega)) ?_  -- k5 spec.l20Command
      rintro v11 w11 ⟨o11, p11, rfl, ho11, hp11, RD11, m11⟩
      obtain ⟨oN, rfl⟩ : ∃ x, x = o11 := ⟨_, rfl⟩
      have hoN := ho11
      have hpN := hp11
      replace RD := RD11
      clear RD11
      replace G := Mod.trans' G m11 (fun _ h _ => h) (fun i h hl => by first | exact h | omega | (dsimp only at h ⊢; omega))
      replace GS9 := GS9.trn m11
      replace O1 := O1.md m11
      have zm11 := m11.size
      refine ⟨GS9, ?_⟩
      refine D_1 (i := 7) (by kernel_rfl) ?_
      refine E_bs1 (cs := [_, _, _, _]) (i := 7) rfl Try.underlying29 zr24 sz24 rfl rfl rfl ?_
      intro b12 w12 fb12 g12 B12
      refine ⟨GS9.grow g12, ?_⟩
      have lb12 := B12.lt
      replace O1 := O1.grow g12
      replace RD := RD.grow g12
      replace G := G.grow g12
      replace GS9 := GS9.grow g12
      have zg12 := g12.size
      refine D_1 (i := 8) (by kernel_rfl) ?_
      refine E_app (i := 8) rfl Try.underlying29 zr24 sz24 by24 rfl rfl (O1.pop (m := min q1 9) (by omega)) rfl (Src.blk B12) (by simp [Value.oneCell', cmdC]) (by omega) (Pr' := (fun i => w.heap.size ≤ i)) (fun i hi => by first | exact hi | omega | (dsimp only at hi ⊢; omega)) (by first | omega | (dsimp only; omega)) ?_
      intro A13 cap13 w13 X13 m13
      replace O1 := X13
      clear X13
      replace G := Mod.trans' G m13 (fun _ h _ => h) (fun i h hl => by first | exact h | omega | (dsimp only at h ⊢; omega))
      replace GS9 := GS9.trn m13
      replace RD := RD.md m13
      have zm13 := m13.size
      rw [flatO_take] at O1
      replace O1 : OW (fun i => w.heap.size ≤ i) w13 24 4 A13 (min q1 9 + 1) cap13 (flatO (lF.take (min q1 9) ++ [oN])) := by rw [flatO_last]; exact O1
      have hl41 : (lF.take (min q1 9) ++ [oN]).length = min q1 9 + 1 := by rw [List.length_append, List.length_take]; simp; omega
      refine ⟨GS9, ?_⟩
      refine Dq (i := 9) rfl GS9 (fun _ _ => Y_assign rfl) ?_
      refine D_en (by kernel_rfl) rfl rfl ?_
      refine th_n (hK8 _ _ ?_)
      clear hK8 K8
      refine wp_seq_k fun K11 hK11 => ?_
      refine Sb 36 rfl ?_  -- 10
      refine S_val (Y_move rfl) ?_
      refine S_val (Y_assign rfl) ?_
      refine S_nl rfl rfl ?_
      refine th_n (hK11 _ _ ?_)
      clear hK11 K11
      refine wp_ret ?_
      refine ret_r1 rfl rfl ?_  -- r1
      first | exact ⟨lF, _, _, _, _, rfl, hq1, hqc, hl40, hcsF, by omega, RO.of_ow O1, RD, G⟩ | exact ⟨_, _, _, _, _, rfl, by rw [hl41], O1.cap, by omega, fun h => by (have h9 := hr9 h; rw [h9] at hb2; cases hb2), by omega, RO.of_ow O1, RD, G⟩ | exact ⟨List.replicate 41 ⟨0, 0, 0, 0⟩, _, _, _, _, rfl, by simp, by omega, by simp, fun h => by (have h9 := hr9 h; rw [h9] at hb2; cases hb2), by omega, hRO, RD, G⟩
     · -- operation 6 comes up
      refine E_call rfl rfl en58 (spec_l20Command_c _ _ _ _ RD (by omega) (by omega)) ?_  -- k6 spec.l20Command
      rintro v14 w14 ⟨o14, p14, rfl, ho14, hp14, RD14, m14⟩
      obtain ⟨oN, rfl⟩ : ∃ x, x = o14 := ⟨_, rfl⟩
      have hoN := ho14
      have hpN := hp14
      replace RD := RD14
      clear RD14
      replace G := Mod.trans' G m14 (fun _ h _ => h) (fun i h hl => by first | exact h | omega | (dsimp only at h ⊢; omega))
      replace GS9 := GS9.trn m14
      replace O1 := O1.md m14
      have zm14 := m14.size
      refine ⟨GS9, ?_⟩
      refine D_2 (i := 3) (j := 7) (by kernel_rfl) ?_ ?_
      · -- operation 3 comes up
       refine E_val (i := 3) rfl (Y_minN (b := 9) rfl rfl) GS9 ?_
       refine Dq (i := 4) rfl GS9 (fun _ _ => Y_sliceH Try.underlying29 sz24 rfl (j := min q1 9) rfl (by omega)) ?_
       refine D_1 (i := 7) (by kernel_rfl) ?_
       refine E_bs1 (cs := [_, _, _, _]) (i := 7) rfl Try.underlying29 zr24 sz24 rfl rfl rfl ?_
       intro b16 w16 fb16 g16 B16
       refine ⟨GS9.grow g16, ?_⟩
       have lb16 := B16.lt
       replace O1 := O1.grow g16
       replace RD := RD.grow g16
       replace G := G.grow g16
       replace GS9 := GS9.grow g16
       have zg16 := g16.size
       refine D_1 (i := 8) (by kernel_rfl) ?_
       refine E_app (i := 8) rfl Try.underlying29 zr24 sz24 by24 rfl rfl (O1.pop (m := min q1 9) (by omega)) rfl (Src.blk B16) (by simp [Value.oneCell', cmdC]) (by omega) (Pr' := (fun i => w.heap.size ≤ i)) (fun i hi => by first | exact hi | omega | (dsimp only at hi ⊢; omega)) (by first | omega | (dsimp only; omega)) ?_
       intro A17 cap17 w17 X17 m17
       replace O1 := X17
       clear X17
       replace G := Mod.trans' G m17 (fun _ h _ => h) (fun i h hl => by first | exact h | omega | (dsimp only at h ⊢; omega))
       replace GS9 := GS9.trn m17
       replace RD := RD.md m17
       have zm17 := m17.size
       rw [flatO_take] at O1
       replace O1 : OW (fun i => w.heap.size ≤ i) w17 24 4 A17 (min q1 9 + 1) cap17 (flatO (lF.take (min q1 9) ++ [oN])) := by rw [flatO_last]; exact O1
       have hl41 : (lF.take (min q1 9) ++ [oN]).length = min q1 9 + 1 := by rw [List.length_append, List.length_take]; simp; omega
       refine ⟨GS9, ?_⟩
       refine Dq (i := 9) rfl GS9 (fun _ _ => Y_assign rfl) ?_
       refine D_en (by kernel_rfl) rfl rfl ?_
       refine th_n (hK8 _ _ ?_)
       clear hK8 K8
       refine wp_seq_k fun K12 hK12 => ?_
       refine Sb 36 rfl ?_  -- 10
       refine S_val (Y_move rfl) ?_
       refine S_val (Y_assign rfl) ?_
       refine S_nl rfl rfl ?_
       refine th_n (hK12 _ _ ?_)
       clear hK12 K12
       refine wp_ret ?_
       refine ret_r1 rfl rfl ?_  -- r2
       first | exact ⟨lF, _, _, _, _, rfl, hq1, hqc, hl40, hcsF, by omega, RO.of_ow O1, RD, G⟩ | exact ⟨_, _, _, _, _, rfl, by rw [hl41], O1.cap, by omega, fun h => by (have h9 := hr9 h; rw [h9] at hb2; cases hb2), by omega, RO.of_ow O1, RD, G⟩ | exact ⟨List.replicate 41 ⟨0, 0, 0, 0⟩, _, _, _, _, rfl, by simp, by omega, by simp, fun h => by (have h9 := hr9 h; rw [h9] at hb2; cases hb2), by omega, hRO, RD, G⟩
      · -- operation 7 comes up
       refine E_bs1 (cs := [_, _, _, _]) (i := 7) rfl Try.underlying29 zr24 sz24 rfl rfl rfl ?_
       intro b18 w18 fb18 g18 B18
       refine ⟨GS9.grow g18, ?_⟩
       have lb18 := B18.lt
       replace O1 := O1.grow g18
       replace RD := RD.grow g18
       replace G := G.grow g18
       replace GS9 := GS9.grow g18
       have zg18 := g18.size
       refine D_1 (i := 3) (by kernel_rfl) ?_
       refine E_val (i := 3) rfl (Y_minN (b := 9) rfl rfl) GS9 ?_
       refine Dq (i := 4) rfl GS9 (fun _ _ => Y_sliceH Try.underlying29 sz24 rfl (j := min q1 9) rfl (by omega)) ?_
       refine D_1 (i := 8) (by kernel_rfl) ?_
       refine E_app (i := 8) rfl Try.underlying29 zr24 sz24 by24 rfl rfl (O1.pop (m := min q1 9) (by omega)) rfl (Src.blk B18) (by simp [Value.oneCell', cmdC]) (by omega) (Pr' := (fun i => w.heap.size ≤ i)) (fun i hi => by first | exact hi | omega | (dsimp only at hi ⊢; omega)) (by first | omega | (dsimp only; omega)) ?_
       intro A20 cap20 w20 X20 m20
       replace O1 := X20
       clear X20
       replace G := Mod.trans' G m20 (fun _ h _ => h) (fun i h hl => by first | exact h | omega | (dsimp only at h ⊢; omega))
       replace GS9 := GS9.trn m20
       replace RD := RD.md m20
       have zm20 := m20.size
       rw [flatO_take] at O1
       replace O1 : OW (fun i => w.heap.size ≤ i) w20 24 4 A20 (min q1 9 + 1) cap20 (flatO (lF.take (min q1 9) ++ [oN])) := by rw [flatO_last]; exact O1
       have hl41 : (lF.take (min q1 9) ++ [oN]).length = min q1 9 + 1 := by rw [List.length_append, List.length_take]; simp; omega
       refine ⟨GS9, ?_⟩
       refine Dq (i := 9) rfl GS9 (fun _ _ => Y_assign rfl) ?_
       refine D_en (by kernel_rfl) rfl rfl ?_
       refine th_n (hK8 _ _ ?_)
       clear hK8 K8
       refine wp_seq_k fun K13 hK13 => ?_
       refine Sb 36 rfl ?_  -- 10
       refine S_val (Y_move rfl) ?_
       refine S_val (Y_assign rfl) ?_
       refine S_nl rfl rfl ?_
       refine th_n (hK13 _ _ ?_)
       clear hK13 K13
       refine wp_ret ?_
       refine ret_r1 rfl rfl ?_  -- r3
       first | exact ⟨lF, _, _, _, _, rfl, hq1, hqc, hl40, hcsF, by omega, RO.of_ow O1, RD, G⟩ | exact ⟨_, _, _, _, _, rfl, by rw [hl41], O1.cap, by omega, fun h => by (have h9 := hr9 h; rw [h9] at hb2; cases hb2), by omega, RO.of_ow O1, RD, G⟩ | exact ⟨List.replicate 41 ⟨0, 0, 0, 0⟩, _, _, _, _, rfl, by simp, by omega, by simp, fun h => by (have h9 := hr9 h; rw [h9] at hb2; cases hb2), by omega, hRO, RD, G⟩
    · -- c3F
     replace hb3 := nb_tf hb3
     refine Sb 36 rfl ?_  -- 9
     refine S_make (n := 41) (l := 41) (z := cmdC ⟨0, 0, 0, 0⟩) Try.underlying29 zr24 sz24 by24 rfl rfl (by omega) (by omega) (by omega) ?_
     intro b21 w21 fb21 g21 B21
     have lb21 := B21.lt
     replace O1 := O1.grow g21
     replace RD := RD.grow g21
     replace G := G.grow g21
     have zg21 := g21.size
     rw [← flatO_rep] at B21
     have hRO : RO (fun i => w.heap.size ≤ i) w21 (some ⟨b21, 0, none⟩) (List.replicate 41 ⟨0, 0, 0, 0⟩) := RO.of_blk0 B21 (by omega)
     refine S_val (Y_assign rfl) ?_
     refine S_nl rfl rfl ?_
     refine th_n (hK8 _ _ ?_)
     clear hK8 K8
     refine wp_seq_k fun K14 hK14 => ?_
     refine Sb 36 rfl ?_  -- 10
     refine S_val (Y_move rfl) ?_
     refine S_val (Y_assign rfl) ?_
     refine S_nl rfl rfl ?_
     refine th_n (hK14 _ _ ?_)
     clear hK14 K14
     refine wp_ret ?_
     refine ret_r1 rfl rfl ?_  -- r4
     first | exact ⟨lF, _, _, _, _, rfl, hq1, hqc, hl40, hcsF, by omega, RO.of_ow O1, RD, G⟩ | exact ⟨_, _, _, _, _, rfl, by rw [hl41], O1.cap, by omega, fun h => by (have h9 := hr9 h; rw [h9] at hb2; cases hb2), by omega, RO.of_ow O1, RD, G⟩ | exact ⟨List.replicate 41 ⟨0, 0, 0, 0⟩, _, _, _, _, rfl, by simp, by omega, by simp, fun h => by (have h9 := hr9 h; rw [h9] at hb2; cases hb2), by omega, hRO, RD, G⟩
   · -- c2F
    first | with_reducible (replace hb2 := nb_nf hb2) | with_reducible (replace hb2 := nb_tf hb2) | with_reducible (replace hb2 := nb_bf hb2) | skip
    refine wp_skip ?_
    refine th_n (hK8 _ _ ?_)
    clear hK8 K8
    refine wp_seq_k fun K15 hK15 => ?_
    refine Sb 36 rfl ?_  -- 10
    refine S_val (Y_move rfl) ?_
    refine S_val (Y_assign rfl) ?_
    refine S_nl rfl rfl ?_
    refine th_n (hK15 _ _ ?_)
    clear hK15 K15
    refine wp_ret ?_
    refine ret_r1 rfl rfl ?_  -- r5
    first | exact ⟨lF, _, _, _, _, rfl, hq1, hqc, hl40, hcsF, by omega, RO.of_ow O1, RD, G⟩ | exact ⟨_, _, _, _, _, rfl, by rw [hl41], O1.cap, by omega, fun h => by (have h9 := hr9 h; rw [h9] at hb2; cases hb2), by omega, RO.of_ow O1, RD, G⟩ | exact ⟨List.replicate 41 ⟨0, 0, 0, 0⟩, _, _, _, _, rfl, by simp, by omega, by simp, fun h => by (have h9 := hr9 h; rw [h9] at hb2; cases hb2), by omega, hRO, RD, G⟩
end
/-! WalkQ -/
section
open Go Go.RowKit
attribute [local irreducible] wpList wpAnyH Code.wp dOp
def metV (h : LH) : List Int := if validB h = true then orderL h.cells h.roots nn else []
theorem metV_t {h : LH} (hv : validB h = true) : metV h = orderL h.cells h.roots nn := if_pos hv
theorem metV_f {h : LH} (hv : validB h = false) : metV h = [] := if_neg (by simp [hv])
theorem metV_len (h : LH) : (metV h).length ≤ h.cells.length := by
  cases hv : validB h with
  | true => rw [metV_t hv]; exact (orderL_bnd (valid_iff.1 hv).leads).len
  | false => rw [metV_f hv]; exact Nat.zero_le _
set_option maxHeartbeats 400000 in
set_option maxRecDepth 20000 in
theorem spec_MetOrder_c (Pr : Nat → Prop) (A B : Option Addr) (h : LH) (c d : Nat) (w : World) (hA : RC Pr w A h.cells) (hB : R1 Pr w B (ints h.roots)) (hz : hsize h ≤ 1048576) :
    Calls Try.prog 37 #[.agg #[.slice A h.cells.length c, .slice B h.roots.length d]] w (Ret fun v w' => ∃ A1 q cap, v = .slice A1 q cap ∧ q = (metV h).length ∧ OI (fun i => w.heap.size ≤ i) w' 3 A1 (ints (metV h)) ∧ Grow w w') := by
 refine enter Try.func37 rfl Try.ntmps37 (L := [_,_,_,_,_,_,_,_,_]) rfl ?_
 have G := Mod.refl No w
 have hA0 := hA
 have hB0 := hB
 refine wp_seq_k fun K1 hK1 => ?_
 refine Sb 9 rfl ?_  -- 0
 refine S_box (cs := [_, _]) rfl rfl ?_
 intro b1 w1 fb1 g1 B1
 have lb1 := B1.lt
 replace hA := hA.grow g1
 replace hB := hB.grow g1
 replace G := G.grow g1
 have zg1 := g1.size
 refine S_val (Y_assign rfl) ?_
 refine S_nl rfl rfl ?_
 refine th_n (hK1 _ _ ?_)
 clear hK1 K1
 refine wp_seq_k fun K2 hK2 => ?_
 refine wp_seq_k fun K3 hK3 => ?_
 refine Sb 9 rfl ?_  -- 1
 refine S_val (Y_loadS Try.underlying35 rfl sz35 rfl (B1.row (by rfl))) ?_  -- l1
 refine S_call rfl en34 (spec_HeapValid_c _ _ _ _ _ _ _ (by assumption) (by assumption) (by omega)) ?_  -- k1 spec.HeapValid
 rintro v2 w2 ⟨rfl, g2⟩
 replace hA := hA.grow g2
 replace hB := hB.grow g2
 replace G := G.grow g2
 replace B1 := B1.grow g2
 have zg2 := g2.size
 refine S_val (Y_not rfl) ?_
 refine S_nl rfl rfl ?_
 refine th_n (hK3 _ _ ?_)
 clear hK3 K3
 refine S_if rfl (fun hb1 => ?_) (fun hb1 => ?_)  -- c1
 · -- c1T
  first | with_reducible (replace hb1 := nb_nt hb1) | with_reducible (replace hb1 := nb_tt hb1) | with_reducible (replace hb1 := nb_bt hb1) | skip
  refine wp_seq_k fun K4 hK4 => ?_
  refine Sb 9 rfl ?_  -- 2
  refine S_bs0 Try.underlying33 sz3 ?_
  intro b3 w3 fb3 g3 B3
  have lb3 := B3.lt
  replace hA := hA.grow g3
  replace hB := hB.grow g3
  replace G := G.grow g3
  replace B1 := B1.grow g3
  have zg3 := g3.size
  refine S_val (Y_assign rfl) ?_
  refine S_nl rfl rfl ?_
  refine th_n (hK4 _ _ ?_)
  clear hK4 K4
  refine wp_ret ?_
  refine th_r ?_
  clear hK2 K2
  refine ret_r1 rfl rfl ?_  -- r1
  exact ⟨_, _, _, rfl, by rw [metV_f hb1]; rfl, by rw [metV_f hb1]; exact OI.nil _ _ _ _, G⟩
 · -- c1F
  first | with_reducible (replace hb1 := nb_nf hb1) | with_reducible (replace hb1 := nb_tf hb1) | with_reducible (replace hb1 := nb_bf hb1) | skip
  have va := valid_iff.1 hb1
  have hl := va.leads
  have h40 := va.le
  have hr4 := va.roots4
  refine wp_skip ?_
  refine th_n (hK2 _ _ ?_)
  clear hK2 K2
  refine wp_seq_k fun K5 hK5 => ?_
  refine Sb 9 rfl ?_  -- 3
  refine S_val (Y_loadS Try.underlying35 rfl sz35 rfl (B1.row (by rfl))) ?_  -- l2
  refine S_call rfl en75 (spec_l9Order_c _ _ _ _ _ _ _ (by assumption) (by assumption) (by omega) (by assumption)) ?_  -- k2 spec.l9Order
  rintro v4 w4 ⟨A4, q4, cap4, rfl, hq4, O4, g4⟩
  replace hA := hA.grow g4
  replace hB := hB.grow g4
  replace G := G.grow g4
  replace B1 := B1.grow g4
  have zg4 := g4.size
  subst hq4
  refine S_val (Y_assign rfl) ?_
  refine S_nl rfl rfl ?_
  refine th_n (hK5 _ _ ?_)
  clear hK5 K5
  refine wp_ret ?_
  refine ret_r1 rfl rfl ?_  -- r2
  exact ⟨_, _, _, rfl, by rw [metV_t hb1], by rw [metV_t hb1]; exact OI.weak (by first | assumption | exact OW.oi (by assumption)) (fun i hi => by omega), G⟩
set_option maxHeartbeats 400000 in
set_option maxRecDepth 20000 in
theorem impl_MetOrder_c (Pr : Nat → Prop) (A B : Option Addr) (h : LH) (c d : Nat) (w : World) (hA : RC Pr w A h.cells) (hB : R1 Pr w B (ints h.roots)) (hz : hsize h ≤ 1048576) :
    Calls Try.prog 28 #[.agg #[.slice A h.cells.length c, .slice B h.roots.length d]] w (Ret fun v w' => ∃ A1 q cap, v = .slice A1 q cap ∧ q = (metV h).length ∧ OI (fun i => w.heap.size ≤ i) w' 3 A1 (ints (metV h)) ∧ Grow w w') := by
 refine enter Try.func28 rfl Try.ntmps28 (L := [_,_,_,_,_,_,_,_]) rfl ?_
 have G := Mod.refl No w
 have hA0 := hA
 have hB0 := hB
 refine wp_seq_k fun K1 hK1 => ?_
 refine Sb 8 rfl ?_  -- 0
 refine S_box (cs := [_, _]) rfl rfl ?_
 intro b1 w1 fb1 g1 B1
 have lb1 := B1.lt
 replace hA := hA.grow g1
 replace hB := hB.grow g1
 replace G := G.grow g1
 have zg1 := g1.size
 refine S_val (Y_assign rfl) ?_
 refine S_nl rfl rfl ?_
 refine th_n (hK1 _ _ ?_)
 clear hK1 K1
 refine wp_seq_k fun K2 hK2 => ?_
 refine wp_seq_k fun K3 hK3 => ?_
 refine Sb 8 rfl ?_  -- 1
 refine S_val (Y_loadS Try.underlying35 rfl sz35 rfl (B1.row (by rfl))) ?_  -- l1
 refine S_call rfl en50 (impl_HeapValid_c _ _ _ _ _ _ _ (by assumption) (by assumption) (by omega)) ?_  -- k1 impl.HeapValid
 rintro v2 w2 ⟨rfl, g2⟩
 replace hA := hA.grow g2
 replace hB := hB.grow g2
 replace G := G.grow g2
 replace B1 := B1.grow g2
 have zg2 := g2.size
 refine S_val (Y_not rfl) ?_
 refine S_nl rfl rfl ?_
 refine th_n (hK3 _ _ ?_)
 clear hK3 K3
 refine S_if rfl (fun hb1 => ?_) (fun hb1 => ?_)  -- c1
 · -- c1T
  first | with_reducible (replace hb1 := nb_nt hb1) | with_reducible (replace hb1 := nb_tt hb1) | with_reducible (replace hb1 := nb_bt hb1) | skip
  refine wp_seq_k fun K4 hK4 => ?_
  refine Sb 8 rfl ?_  -- 2
  refine S_val (Y_assign rfl) ?_
  refine S_nl rfl rfl ?_
  refine th_n (hK4 _ _ ?_)
  clear hK4 K4
  refine wp_ret ?_
  refine th_r ?_
  clear hK2 K2
  refine ret_r1 rfl rfl ?_  -- r1
  exact ⟨_, _, _, rfl, by rw [metV_f hb1]; rfl, by rw [metV_f hb1]; exact OI.nil _ _ _ _, G⟩
 · -- c1F
  first | with_reducible (replace hb1 := nb_nf hb1) | with_reducible (replace hb1 := nb_tf hb1) | with_reducible (replace hb1 := nb_bf hb1) | skip
  have va := valid_iff.1 hb1
  have hl := va.leads
  have h40 := va.le
  have hr4 := va.roots4
  refine wp_skip ?_
  refine th_n (hK2 _ _ ?_)
  clear hK2 K2
  refine wp_seq_k fun K5 hK5 => ?_
  refine Sb 8 rfl ?_  -- 3
  refine S_val (Y_loadS Try.underlying35 rfl sz35 rfl (B1.row (by rfl))) ?_  -- l2
  refine S_call rfl en71 (impl_metOrder_c _ _ _ _ _ _ _ (by assumption) (by assumption) (by omega) (by assumption) (by omega)) ?_  -- k2 impl.metOrder
  rintro v3 w3 ⟨A3, q3, cap3, rfl, hq3, O3, g3⟩
  replace hA := hA.grow g3
  replace hB := hB.grow g3
  replace G := G.grow g3
  replace B1 := B1.grow g3
  have zg3 := g3.size
  subst hq3
  refine S_val (Y_assign rfl) ?_
  refine S_nl rfl rfl ?_
  refine th_n (hK5 _ _ ?_)
  clear hK5 K5
  refine wp_ret ?_
  refine ret_r1 rfl rfl ?_  -- r2
  exact ⟨_, _, _, rfl, by rw [metV_t hb1], by rw [metV_t hb1]; exact OI.weak (by first | assumption | exact OW.oi (by assumption)) (fun i hi => by omega), G⟩
end
/-! WalkT -/
section
open Go Go.RowKit
attribute [local irreducible] wpList wpAnyH Code.wp dOp
set_option maxHeartbeats 400000 in
set_option maxRecDepth 20000 in
theorem impl_LeakedCells_c (Pr : Nat → Prop) (A B : Option Addr) (h : LH) (c d : Nat) (w : World) (hA : RC Pr w A h.cells) (hB : R1 Pr w B (ints h.roots)) (hz : hsize h ≤ 1048576) :
    Calls Try.prog 29 #[.agg #[.slice A h.cells.length c, .slice B h.roots.length d]] w (Ret fun v w' => ∃ A1 q cap, v = .slice A1 q cap ∧ q = (leakV h).length ∧ OI (fun i => w.heap.size ≤ i) w' 3 A1 (ints (leakV h)) ∧ Grow w w') := by
 have hz1 := hsize_cells h
 have hz2 := hsize_roots h
 refine enter Try.func29 rfl Try.ntmps29 (L := [_,_,_,_,_,_,_,_,_,_,_,_,_,_,_,_,_,_,_,_,_,_,_,_,_,_,_,_,_,_]) rfl ?_
 have G := Mod.refl No w
 have hA0 := hA
 have hB0 := hB
 refine wp_seq_k fun K1 hK1 => ?_
 refine Sb 30 rfl ?_  -- 0
 refine S_box (cs := [_, _]) rfl rfl ?_
 intro b1 w1 fb1 g1 B1
 have lb1 := B1.lt
 replace hA := hA.grow g1
 replace hB := hB.grow g1
 replace G := G.grow g1
 have zg1 := g1.size
 refine S_val (Y_assign rfl) ?_
 refine S_nl rfl rfl ?_
 refine th_n (hK1 _ _ ?_)
 clear hK1 K1
 refine wp_seq_k fun K2 hK2 => ?_
 refine wp_seq_k fun K3 hK3 => ?_
 refine Sb 30 rfl ?_  -- 1
 refine S_val (Y_loadS Try.underlying35 rfl sz35 rfl (B1.row (by rfl))) ?_  -- l1
 refine S_call rfl en50 (impl_HeapValid_c _ _ _ _ _ _ _ (by assumption) (by assumption) (by omega)) ?_  -- k1 impl.HeapValid
 rintro v2 w2 ⟨rfl, g2⟩
 replace hA := hA.grow g2
 replace hB := hB.grow g2
 replace G := G.grow g2
 replace B1 := B1.grow g2
 have zg2 := g2.size
 refine S_val (Y_not rfl) ?_
 refine S_nl rfl rfl ?_
 refine th_n (hK3 _ _ ?_)
 clear hK3 K3
 refine S_if rfl (fun hb1 => ?_) (fun hb1 => ?_)  -- c1
 · -- c1T
  first | with_reducible (replace hb1 := nb_nt hb1) | with_reducible (replace hb1 := nb_tt hb1) | with_reducible (replace hb1 := nb_bt hb1) | skip
  refine wp_seq_k fun K4 hK4 => ?_
  refine Sb 30 rfl ?_  -- 2
  refine S_val (Y_assign rfl) ?_
  refine S_nl rfl rfl ?_
  refine th_n (hK4 _ _ ?_)
  clear hK4 K4
  refine wp_ret ?_
  refine th_r ?_
  clear hK2 K2
  refine ret_r1 rfl rfl ?_  -- r1
  exact ⟨_, _, _, rfl, by rw [leakV_f hb1]; rfl, by rw [leakV_f hb1]; exact OI.nil _ _ _ _, G⟩
 · -- c1F
  first | with_reducible (replace hb1 := nb_nf hb1) | with_reducible (replace hb1 := nb_tf hb1) | with_reducible (replace hb1 := nb_bf hb1) | skip
  have va := valid_iff.1 hb1
  have hl := va.leads
  have h40 := va.le
  have hr4 := va.roots4
  refine wp_skip ?_
  refine th_n (hK2 _ _ ?_)
  clear hK2 K2
  refine wp_seq_k fun K5 hK5 => ?_
  refine D_start 6 30 (fun w => Mod (No) w) follows rfl rfl ?_  -- d1 r3
  intro w3 g3
  replace hA := hA.grow g3
  replace hB := hB.grow g3
  replace G := G.grow g3
  replace B1 := B1.grow g3
  have zg3 := g3.size
  have GS3 := Mod.refl (No) w3
  have B1d3 := B1
  refine Dq (i := 0) rfl GS3 (fun _ hs => Y_loadS Try.underlying35 rfl sz35 rfl (by first | exact hs.cells0 (B1.row (by rfl)))) ?_
  refine Dq (i := 2) rfl GS3 (fun _ hs => Y_loadS Try.underlying35 rfl sz35 rfl (by first | exact hs.cells0 (B1.row (by rfl)))) ?_
  refine D_1 (i := 1) (by kernel_rfl) ?_
  refine E_call rfl rfl en68 (impl_usedSet_c _ _ _ _ _ _ _ (by assumption) (by omega)) ?_  -- k2 impl.usedSet
  rintro v4 w4 ⟨s4, rfl, hs4, g4⟩
  replace hA := hA.grow g4
  replace hB := hB.grow g4
  replace G := G.grow g4
  replace GS3 := GS3.grow g4
  replace B1 := B1.grow g4
  have zg4 := g4.size
  have hU := hs4
  refine ⟨GS3, ?_⟩
  refine D_1 (i := 3) (by kernel_rfl) ?_
  refine E_call rfl rfl en72 (impl_reachable_c _ _ _ _ _ _ _ (by assumption) (by assumption) (by omega) (by assumption)) ?_  -- k3 impl.reachable
  rintro v5 w5 ⟨s5, rfl, hs5, hr5, g5⟩
  replace hA := hA.grow g5
  replace hB := hB.grow g5
  replace G := G.grow g5
  replace GS3 := GS3.grow g5
  replace B1 := B1.grow g5
  have zg5 := g5.size
  have hR0 := hs5
  have hR := hr5
  refine ⟨GS3, ?_⟩
  refine Dq (i := 4) rfl GS3 (fun _ _ => Y_andNot rfl rfl (by first | assumption | exact SetOf.wlt (by assumption)) (by first | assumption | exact SetOf.wlt (by assumption))) ?_
  refine Dq (i := 5) rfl GS3 (fun _ _ => Y_assign rfl) ?_
  refine D_en (by kernel_rfl) rfl rfl ?_
  refine th_n (hK5 _ _ ?_)
  clear hK5 K5
  refine wp_seq_k fun K6 hK6 => ?_
  refine Sb 30 rfl ?_  -- 4
  refine S_bs0 Try.underlying33 sz3 ?_
  intro b6 w6 fb6 g6 B6
  have lb6 := B6.lt
  replace hA := hA.grow g6
  replace hB := hB.grow g6
  replace G := G.grow g6
  replace B1 := B1.grow g6
  have zg6 := g6.size
  refine S_val (Y_assign rfl) ?_
  refine S_nl rfl rfl ?_
  refine th_n (hK6 _ _ ?_)
  clear hK6 K6
  refine wp_seq_k fun K7 hK7 => ?_
  refine wp_seq_k fun K8 hK8 => ?_
  refine Sb 30 rfl ?_  -- 5
  refine S_val (Y_field Try.underlying35 rfl fz35_0 (by decide) rfl) ?_
  refine S_val (Y_load Try.underlying32 rfl rfl (B1.at (by rfl))) ?_  -- l4
  refine S_val (Y_len Try.underlying32 rfl) ?_
  refine S_val (Y_move rfl) ?_
  refine S_nl rfl rfl ?_
  refine th_n (hK8 _ _ ?_)
  clear hK8 K8
  refine wp_block ?_
  obtain ⟨bz, rfl⟩ : ∃ x : Nat, x = b6 := ⟨_, rfl⟩
  obtain ⟨wz, hwz⟩ : ∃ x, x = w6.heap.size := ⟨_, rfl⟩
  have O1 : OW (fun i => i = bz ∨ wz ≤ i) w6 3 1 (some ⟨bz, 0, none⟩) 0 0 (ints []) := OW.of_blk B6 rfl (by decide) (.inl rfl)
  go_loopw [4, 18] (fun u4 u18 wr => (∃ (k q cap : Nat) (A1 : Option Addr), u18 = .int .i64 k ∧ u4 = .slice A1 q cap ∧ k ≤ h.cells.length ∧ q = (selL k (leakP h)).length ∧ OW (fun i => i = bz ∨ wz ≤ i) wr 3 1 A1 q cap (ints (selL k (leakP h)))) ∧ Mod (fun i => i = bz ∨ wz ≤ i) w6 wr) (fun u4 u18 wr => h.cells.length - (intOf u18).toNat)  -- L1
  case atStart =>
   refine ⟨?_, Mod.refl _ _⟩
   exact ⟨0, 0, 0, _, rfl, rfl, by omega, rfl, O1⟩
  case round =>
   obtain ⟨w7, rfl⟩ : ∃ x : World, x = wr := ⟨_, rfl⟩
   obtain ⟨hrel, g7⟩ := hrel
   clear O1
   replace G := G.abv g7
   replace hA := hA0.grow G
   replace hB := hB0.grow G
   replace B1 := B1.md g7
   have zg7 := g7.size
   obtain ⟨k, q1, cap1, A1, rfl, rfl, hk, hq1, O1⟩ := hrel
   have hsl := selL_le k (leakP h)
   have GL7 := g7
   refine wp_seq_k fun K9 hK9 => ?_
   refine Sb 30 rfl ?_  -- 6
   refine S_val (Y_lss rfl rfl) ?_
   refine S_nl rfl rfl ?_
   refine th_n (hK9 _ _ ?_)
   clear hK9 K9
   refine wp_seq_k fun K10 hK10 => ?_
   refine S_if rfl (fun hb2 => ?_) (fun hb2 => ?_)  -- c2
   · -- c2T
    replace hb2 := nb_tt hb2
    have hk1 : k < h.cells.length := by omega
    refine wp_skip ?_
    refine th_n (hK10 _ _ ?_)
    clear hK10 K10
    refine wp_seq_k fun K11 hK11 => ?_
    refine wp_block ?_
    refine wp_seq_k fun K12 hK12 => ?_
    refine Sb 30 rfl ?_  -- 7
    refine S_val (Y_move rfl) ?_
    refine S_val (Y_assign rfl) ?_
    refine S_nl rfl rfl ?_
    refine th_n (hK12 _ _ ?_)
    clear hK12 K12
    refine wp_seq_k fun K13 hK13 => ?_
    refine Sb 30 rfl ?_  -- 8
    refine S_val (Y_move rfl) ?_
    refine S_val (Y_move rfl) ?_
    refine S_call rfl en73 (impl_cellSet_has_c _ _ _ (lessN_lt hU.1)) ?_  -- k4 (impl.cellSet).has
    rintro v w' ⟨rfl, rfl⟩
    refine S_nl rfl rfl ?_
    refine th_n (hK13 _ _ ?_)
    clear hK13 K13
    refine S_if rfl (fun hb3 => ?_) (fun hb3 => ?_)  -- c3
    · -- c3T
     first | with_reducible (replace hb3 := nb_nt hb3) | with_reducible (replace hb3 := nb_tt hb3) | with_reducible (replace hb3 := nb_bt hb3) | skip
     rw [hasB_nat, lessN_bit hU.1 hR0, used_set hU, rB_list hR hk1] at hb3
     replace hb3 : leakP h k = true := hb3
     refine Sb 30 rfl ?_  -- 9
     refine S_val (Y_move rfl) ?_
     refine S_val (Y_move rfl) ?_
     refine S_bs1 (cs := [_]) Try.underlying33 zr3 sz3 rfl rfl rfl ?_
     intro b9 w9 fb9 g9 B9
     have lb9 := B9.lt
     replace hA := hA.grow g9
     replace hB := hB.grow g9
     replace O1 := O1.grow g9
     replace G := G.grow g9
     replace GL7 := GL7.grow g9
     replace B1 := B1.grow g9
     have zg9 := g9.size
     refine S_app Try.underlying33 zr3 sz3 by3 rfl rfl O1 rfl (Src.blk B9) (by simp [Value.oneCell']) (by omega) (Pr' := fun i => i = bz ∨ wz ≤ i) (fun i hi => hi) (by omega) ?_
     intro A10 cap10 w10 X10 m10
     replace O1 := X10
     rw [ints_app] at O1
     clear X10
     replace G := G.abv m10
     replace GL7 := GL7.trn m10
     replace hA := hA0.grow G
     replace hB := hB0.grow G
     replace B1 := B1.md m10
     have zm10 := m10.size
     refine S_val (Y_assign rfl) ?_
     refine S_nl rfl rfl ?_
     refine ib_n ?_
     refine th_n (hK11 _ _ ?_)
     clear hK11 K11
     refine Sb 30 rfl ?_  -- 10
     refine S_val (Y_inc rfl rfl (by omega)) ?_
     refine S_val (Y_move rfl) ?_
     refine S_nl rfl rfl ?_
     refine th_n ?_
     go_roundw  -- e1 of L1
     case rel =>
      refine ⟨?_, GL7⟩
      exact ⟨k + 1, _, _, _, rfl, rfl, by omega, by rw [selL_yes hb3, List.length_append, ← hq1]; rfl, by rw [selL_yes hb3]; exact O1⟩
     case measure =>
      exact dec_nat (by omega)
    · -- c3F
     first | with_reducible (replace hb3 := nb_nf hb3) | with_reducible (replace hb3 := nb_tf hb3) | with_reducible (replace hb3 := nb_bf hb3) | skip
     rw [hasB_nat, lessN_bit hU.1 hR0, used_set hU, rB_list hR hk1] at hb3
     replace hb3 : leakP h k = false := hb3
     refine wp_skip ?_
     refine ib_n ?_
     refine th_n (hK11 _ _ ?_)
     clear hK11 K11
     refine Sb 30 rfl ?_  -- 10
     refine S_val (Y_inc rfl rfl (by omega)) ?_
     refine S_val (Y_move rfl) ?_
     refine S_nl rfl rfl ?_
     refine th_n ?_
     go_roundw  -- e2 of L1
     case rel =>
      refine ⟨?_, GL7⟩
      exact ⟨k + 1, _, _, _, rfl, rfl, by omega, by rw [selL_no hb3]; exact hq1, by rw [selL_no hb3]; exact O1⟩
     case measure =>
      exact dec_nat (by omega)
   · -- c2F
    replace hb2 := nb_tf hb2
    refine wp_exit ?_
    refine th_x ?_
    try clear GL7
    refine th_x ?_
    refine ib_e ?_
    refine th_n (hK7 _ _ ?_)
    clear hK10 K10 hK7 K7
    refine wp_seq_k fun K14 hK14 => ?_
    refine Sb 30 rfl ?_  -- 11
    refine S_val (Y_move rfl) ?_
    refine S_val (Y_assign rfl) ?_
    refine S_nl rfl rfl ?_
    refine th_n (hK14 _ _ ?_)
    clear hK14 K14
    refine wp_ret ?_
    refine ret_r1 rfl rfl ?_  -- r2
    have hkN : k = h.cells.length := by omega
    rw [hkN] at hq1 O1
    exact ⟨_, _, _, rfl, by rw [leakV_t hb1]; exact hq1, by rw [leakV_t hb1]; exact O1.oi.weak (fun i hi => by omega), G⟩
end
/-! WalkP -/
section
open Go Go.RowKit
attribute [local irreducible] wpList wpAnyH Code.wp dOp
set_option maxHeartbeats 400000 in
set_option maxRecDepth 20000 in
theorem spec_l7Counts_c (Pr : Nat → Prop) (A B : Option Addr) (h : LH) (c d : Nat) (w : World) (hA : RC Pr w A h.cells) (hB : R1 Pr w B (ints h.roots)) (hz : hsize h ≤ 1048576) (hl : Leads h.cells h.roots nn) :
    Calls Try.prog 80 #[.agg #[.slice A h.cells.length c, .slice B h.roots.length d]] w (Ret fun v w' => ∃ b, v = .slice (some ⟨b, 0, none⟩) h.cells.length h.cells.length ∧ w.heap.size ≤ b ∧ Blk w' b 3 (ints (cntL h.cells.length (refsAll h fun _ => false))).toArray ∧ Grow w w') := by
 have hz1 := hsize_cells h
 have hz2 := hsize_roots h
 have hz3 : ∀ k (hk : k < h.cells.length), h.cells[k].refs.length ≤ hsize h := fun k hk => hsize_refs h hk
 have hz4 : h.roots.length + rsum h.cells h.cells.length ≤ hsize h := by unfold hsize; omega
 have hAl := hA.below
 have hBl := hB.below
 refine enter Try.func80 rfl Try.ntmps80 (L := [_,_,_,_,_,_,_,_,_,_,_,_,_,_,_,_,_,_,_,_,_,_,_,_,_,_,_,_,_,_,_,_,_,_,_,_,_,_,_,_,_,_,_,_,_,_,_,_,_,_,_,_,_,_,_,_,_,_,_,_,_,_,_,_,_,_,_,_,_,_,_,_,_,_,_,_,_,_,_]) rfl ?_
 have G := Mod.refl No w
 have hAl0 := hAl
 have hBl0 := hBl
 refine wp_seq_k fun K1 hK1 => ?_
 refine Sb 79 rfl ?_  -- 0
 refine S_box (cs := [_, _]) rfl rfl ?_
 intro b1 w1 fb1 g1 B1
 have lb1 := B1.lt
 replace hAl := hAl.grow g1
 replace hBl := hBl.grow g1
 replace G := G.grow g1
 have zg1 := g1.size
 refine S_val (Y_assign rfl) ?_
 refine S_nl rfl rfl ?_
 refine th_n (hK1 _ _ ?_)
 clear hK1 K1
 refine wp_seq_k fun K2 hK2 => ?_
 refine Sb 79 rfl ?_  -- 1
 refine S_val (Y_field Try.underlying35 rfl fz35_0 (by decide) rfl) ?_
 refine S_val (Y_load Try.underlying32 rfl rfl (B1.at (by rfl))) ?_  -- l1
 refine S_val (Y_len Try.underlying32 rfl) ?_
 refine S_make (z := [.int .i64 0]) Try.underlying33 zr3 sz3 by3 rfl rfl (by omega) (by omega) (by omega) ?_
 intro b2 w2 fb2 g2 B2
 rw [cntL_zero] at B2
 have lb2 := B2.lt
 replace hAl := hAl.grow g2
 replace hBl := hBl.grow g2
 replace G := G.grow g2
 replace B1 := B1.grow g2
 have zg2 := g2.size
 refine S_val (Y_assign rfl) ?_
 refine S_nl rfl rfl ?_
 refine th_n (hK2 _ _ ?_)
 clear hK2 K2
 refine wp_seq_k fun K3 hK3 => ?_
 refine wp_seq_k fun K4 hK4 => ?_
 refine Sb 79 rfl ?_  -- 2
 refine S_val (Y_assign rfl) ?_
 refine S_nl rfl rfl ?_
 refine th_n (hK4 _ _ ?_)
 clear hK4 K4
 refine wp_block ?_
 go_loopw [4] (fun u4 wr => (∃ k : Nat, u4 = .int .i64 k ∧ k ≤ h.roots.length ∧ Blk wr b2 3 (ints (cntL h.cells.length (h.roots.take k))).toArray) ∧ Mod (fun i => i = b2) w2 wr) (fun u4 wr => h.roots.length - (intOf u4).toNat)  -- L1
 case atStart =>
  refine ⟨?_, Mod.refl _ _⟩
  exact ⟨0, rfl, by omega, by simpa using B2⟩
 case round =>
  obtain ⟨w3, rfl⟩ : ∃ x : World, x = wr := ⟨_, rfl⟩
  obtain ⟨hrel, g3⟩ := hrel
  clear B2
  replace G := G.abv g3
  replace hAl := hAl0.grow G
  replace hBl := hBl0.grow G
  replace B1 := B1.md g3
  have zg3 := g3.size
  obtain ⟨k, rfl, hk, B2⟩ := hrel
  have GL3 := g3
  refine wp_seq_k fun K5 hK5 => ?_
  refine wp_seq_k fun K6 hK6 => ?_
  refine Sb 79 rfl ?_  -- 3
  refine S_val (Y_move rfl) ?_
  refine S_val (Y_field Try.underlying35 rfl fz35_1 (by decide) rfl) ?_
  refine S_val (Y_load Try.underlying33 rfl rfl (B1.at (by rfl))) ?_  -- l2
  refine S_val (Y_len Try.underlying33 rfl) ?_
  refine S_val (Y_lss rfl rfl) ?_
  refine S_nl rfl rfl ?_
  refine th_n (hK6 _ _ ?_)
  clear hK6 K6
  refine S_if rfl (fun hb1 => ?_) (fun hb1 => ?_)  -- c1
  · -- c1T
   replace hb1 := nb_tt hb1
   have hk1 : k < h.roots.length := by omega
   obtain ⟨g2, o2, rfl, hp2, hc2⟩ := hBl.int hk1
   have htk := List.take_succ_eq_append_getElem hk1
   have htl : (h.roots.take k).length ≤ 1048576 := by rw [List.length_take]; omega
   refine wp_skip ?_
   refine th_n (hK5 _ _ ?_)
   clear hK5 K5
   refine wp_seq_k fun K7 hK7 => ?_
   refine wp_block ?_
   refine wp_seq_k fun K8 hK8 => ?_
   refine Sb 79 rfl ?_  -- 5
   refine S_val (Y_field Try.underlying35 rfl fz35_1 (by decide) rfl) ?_
   refine S_val (Y_load Try.underlying33 rfl rfl (B1.at (by rfl))) ?_  -- l3
   refine S_val (Y_move rfl) ?_
   refine S_val (Y_index Try.underlying33 sz3 rfl rfl (by first | assumption | omega)) ?_
   refine S_val (Y_load Try.underlying3 rfl rfl (by first | assumption | exact B1.at (by rfl) | exact B2.at (by rfl))) ?_  -- l4
   refine S_val (Y_geq rfl rfl) ?_
   refine S_nl rfl rfl ?_
   refine th_n (hK8 _ _ ?_)
   clear hK8 K8
   refine S_if rfl (fun hb2 => ?_) (fun hb2 => ?_)  -- c2
   · -- c2T
    replace hb2 := nb_tt hb2
    obtain ⟨n, hn, hnN⟩ := ref_at hl.1 hk1 hb2
    rw [hn] at htk
    have hcle := count_le (n : Int) (h.roots.take k)
    refine D_start 17 79 (fun w => Mod (fun i => i = b2) w) follows rfl rfl ?_  -- d1 r6
    intro w4 g4
    replace hAl := hAl.grow g4
    replace hBl := hBl.grow g4
    replace G := G.grow g4
    replace GL3 := GL3.grow g4
    replace B1 := B1.grow g4
    replace B2 := B2.grow g4
    have zg4 := g4.size
    have GS4 := Mod.refl (fun i => i = b2) w4
    obtain ⟨g3, o3, e3, hp3, hc3⟩ := hBl.int hk1
    cases e3
    rw [hn] at hc3
    have hcel : w4.cell? ⟨b2, 0 + n * 1, none⟩ = some (.int .i64 (((h.roots.take k).count (n : Int) : Nat) : Int)) := by rw [Nat.zero_add, Nat.mul_one]; exact B2.at (by rw [List.getElem?_toArray]; exact ints_get (cntL_get hnN))
    refine Dq (i := 0) rfl GS4 (fun _ _ => Y_move rfl) ?_
    refine Dq (i := 1) rfl GS4 (fun _ _ => Y_field Try.underlying35 rfl fz35_1 (by decide) rfl) ?_
    refine Dq (i := 2) rfl GS4 (fun _ hs => Y_load Try.underlying33 rfl rfl (by first | exact hs.cell (B1.at (by rfl)) (by intro h; first | omega | (dsimp only at h; omega)))) ?_
    refine Dq (i := 3) rfl GS4 (fun _ _ => Y_move rfl) ?_
    refine Dq (i := 4) rfl GS4 (fun _ _ => Y_index Try.underlying33 sz3 rfl rfl (by first | assumption | omega)) ?_
    refine Dq (i := 5) rfl GS4 (fun _ hs => Y_load Try.underlying3 rfl rfl (by first | exact hs.cell (by assumption) (by intro h; first | omega | (dsimp only at h; omega)) | exact hs.cell (B1.at (by rfl)) (by intro h; first | omega | (dsimp only at h; omega)) | exact hs.cell (B2.at (by rfl)) (by intro h; first | omega | (dsimp only at h; omega)))) ?_
    refine Dq (i := 6) rfl GS4 (fun _ _ => Y_move rfl) ?_
    refine Dq (i := 7) rfl GS4 (fun _ _ => Y_field Try.underlying35 rfl fz35_1 (by decide) rfl) ?_
    refine Dq (i := 8) rfl GS4 (fun _ hs => Y_load Try.underlying33 rfl rfl (by first | exact hs.cell (B1.at (by rfl)) (by intro h; first | omega | (dsimp only at h; omega)))) ?_
    refine Dq (i := 9) rfl GS4 (fun _ _ => Y_move rfl) ?_
    refine Dq (i := 10) rfl GS4 (fun _ _ => Y_index Try.underlying33 sz3 rfl rfl (by first | assumption | omega)) ?_
    refine Dq (i := 11) rfl GS4 (fun _ hs => Y_load Try.underlying3 rfl rfl (by first | exact hs.cell (by assumption) (by intro h; first | omega | (dsimp only at h; omega)) | exact hs.cell (B1.at (by rfl)) (by intro h; first | omega | (dsimp only at h; omega)) | exact hs.cell (B2.at (by rfl)) (by intro h; first | omega | (dsimp only at h; omega)))) ?_
    refine Dq (i := 12) rfl GS4 (fun _ _ => Y_index Try.underlying33 sz3 rfl rfl (by first | assumption | omega)) ?_
    refine D_1 (i := 13) (by kernel_rfl) ?_
    refine E_val (i := 13) rfl (Y_load Try.underlying3 rfl rfl hcel) GS4 ?_
    refine Dq (i := 14) rfl GS4 (fun _ _ => Y_inc rfl rfl (by omega)) ?_
    refine Dq (i := 15) rfl GS4 (fun _ _ => Y_index Try.underlying33 sz3 rfl rfl (by first | assumption | omega)) ?_
    refine D_1 (i := 16) (by kernel_rfl) ?_
    refine E_stM (i := 16) rfl (pre := (ints (cntL h.cells.length (h.roots.take k))).take n) (old := [.int .i64 (((h.roots.take k).count (n : Int) : Nat) : Int)]) (post := (ints (cntL h.cells.length (h.roots.take k))).drop (n + 1)) (vs := [_]) sz3 rfl rfl rfl rfl (by rw [← cntL_split hnN]; exact B2) (by rw [List.length_take, ints_len, cntL_len]; omega) rfl ?_
    intro w6 m6 X6
    replace B2 := Blk.eq X6 (cntL_set hnN)
    clear X6
    replace G := G.abv m6
    replace GL3 := GL3.trn m6
    replace GS4 := GS4.trn m6
    replace hAl := hAl0.grow G
    replace hBl := hBl0.grow G
    replace B1 := B1.md m6
    have zm6 := m6.size
    refine ⟨GS4, ?_⟩
    refine D_en (by kernel_rfl) rfl rfl ?_
    refine ib_n ?_
    refine th_n (hK7 _ _ ?_)
    clear hK7 K7
    refine Sb 79 rfl ?_  -- 4
    refine S_val (Y_move rfl) ?_
    refine S_val (Y_inc rfl rfl (by omega)) ?_
    refine S_val (Y_assign rfl) ?_
    refine S_nl rfl rfl ?_
    refine th_n ?_
    go_roundw  -- e1 of L1
    case rel =>
     refine ⟨?_, GL3⟩
     exact ⟨k + 1, rfl, by omega, by rw [htk]; exact B2⟩
    case measure =>
     exact dec_nat (by omega)
   · -- c2F
    replace hb2 := nb_tf hb2
    refine wp_skip ?_
    refine ib_n ?_
    refine th_n (hK7 _ _ ?_)
    clear hK7 K7
    refine Sb 79 rfl ?_  -- 4
    refine S_val (Y_move rfl) ?_
    refine S_val (Y_inc rfl rfl (by omega)) ?_
    refine S_val (Y_assign rfl) ?_
    refine S_nl rfl rfl ?_
    refine th_n ?_
    go_roundw  -- e2 of L1
    case rel =>
     refine ⟨?_, GL3⟩
     exact ⟨k + 1, rfl, by omega, by rw [htk, cntL_neg hb2]; exact B2⟩
    case measure =>
     exact dec_nat (by omega)
  · -- c1F
   replace hb1 := nb_tf hb1
   refine wp_exit ?_
   refine th_x ?_
   try clear GL3
   refine th_x ?_
   refine ib_e ?_
   refine th_n (hK3 _ _ ?_)
   clear hK5 K5 hK3 K3
   refine wp_seq_k fun K9 hK9 => ?_
   refine wp_seq_k fun K10 hK10 => ?_
   refine Sb 79 rfl ?_  -- 7
   refine S_val (Y_assign rfl) ?_
   refine S_nl rfl rfl ?_
   refine th_n (hK10 _ _ ?_)
   clear hK10 K10
   refine wp_block ?_
   rw [List.take_of_length_le (by omega)] at B2
   go_loopw [5] (fun u5 wr => (∃ k : Nat, u5 = .int .i64 k ∧ k ≤ h.cells.length ∧ Blk wr b2 3 (ints (cntL h.cells.length (h.roots ++ refsUp h.cells (fun _ => false) k))).toArray) ∧ Mod (fun i => i = b2) w3 wr) (fun u5 wr => h.cells.length - (intOf u5).toNat)  -- L2
   case atStart =>
    refine ⟨?_, Mod.refl _ _⟩
    exact ⟨0, rfl, by omega, by simpa [refsUp] using B2⟩
   case round =>
    obtain ⟨w7, rfl⟩ : ∃ x : World, x = wr := ⟨_, rfl⟩
    obtain ⟨hrel, g7⟩ := hrel
    clear B2
    replace G := G.abv g7
    replace hAl := hAl0.grow G
    replace hBl := hBl0.grow G
    replace B1 := B1.md g7
    have zg7 := g7.size
    obtain ⟨k, rfl, hk, B2⟩ := hrel
    have GL7 := g7
    refine wp_seq_k fun K11 hK11 => ?_
    refine wp_seq_k fun K12 hK12 => ?_
    refine Sb 79 rfl ?_  -- 8
    refine S_val (Y_move rfl) ?_
    refine S_val (Y_field Try.underlying35 rfl fz35_0 (by decide) rfl) ?_
    refine S_val (Y_load Try.underlying32 rfl rfl (B1.at (by rfl))) ?_  -- l9
    refine S_val (Y_len Try.underlying32 rfl) ?_
    refine S_val (Y_lss rfl rfl) ?_
    refine S_nl rfl rfl ?_
    refine th_n (hK12 _ _ ?_)
    clear hK12 K12
    refine S_if rfl (fun hb2 => ?_) (fun hb2 => ?_)  -- c3
    · -- c3T
     replace hb2 := nb_tt hb2
     have hk1 : k < h.cells.length := by omega
     obtain ⟨g3, o3, E3, d3, rfl, hp3, cc30, hE30⟩ := hAl0.cell hk1
     have cc3 := cc30.grow G
     have hE3 := hE30.grow G
     have hz5 := hz3 k hk1
     have hq1 := refsUp_le (cs := h.cells) (sk := fun _ => false) (Nat.le_of_lt hk1)
     have hq2 := rsum_succ hk1
     have hq3 := rsum_mono (cs := h.cells) (k := k + 1) (n := h.cells.length) (by omega) (Nat.le_refl _)
     refine wp_skip ?_
     refine th_n (hK11 _ _ ?_)
     clear hK11 K11
     refine wp_seq_k fun K13 hK13 => ?_
     refine wp_block ?_
     refine wp_seq_k fun K14 hK14 => ?_
     refine Sb 79 rfl ?_  -- 10
     refine S_val (Y_assign rfl) ?_
     refine S_nl rfl rfl ?_
     refine th_n (hK14 _ _ ?_)
     clear hK14 K14
     refine wp_block ?_
     go_loopw [6] (fun u6 wr => (∃ j : Nat, u6 = .int .i64 j ∧ j ≤ h.cells[k].refs.length ∧ Blk wr b2 3 (ints (cntL h.cells.length (h.roots ++ refsUp h.cells (fun _ => false) k ++ h.cells[k].refs.take j))).toArray) ∧ Mod (fun i => i = b2) w7 wr) (fun u6 wr => h.cells[k].refs.length - (intOf u6).toNat)  -- L3
     case atStart =>
      refine ⟨?_, Mod.refl _ _⟩
      exact ⟨0, rfl, by omega, by simpa using B2⟩
     case round =>
      obtain ⟨w8, rfl⟩ : ∃ x : World, x = wr := ⟨_, rfl⟩
      obtain ⟨hrel, g8⟩ := hrel
      clear B2
      replace G := G.abv g8
      replace GL7 := GL7.trn g8
      replace hAl := hAl0.grow G
      replace hBl := hBl0.grow G
      replace cc3 := cc30.grow G
      replace hE3 := hE30.grow G
      replace B1 := B1.md g8
      have zg8 := g8.size
      obtain ⟨j, rfl, hj, B2⟩ := hrel
      have GL8 := g8
      refine wp_seq_k fun K15 hK15 => ?_
      refine wp_seq_k fun K16 hK16 => ?_
      refine Sb 79 rfl ?_  -- 11
      refine S_val (Y_move rfl) ?_
      refine S_val (Y_field Try.underlying35 rfl fz35_0 (by decide) rfl) ?_
      refine S_val (Y_load Try.underlying32 rfl rfl (B1.at (by rfl))) ?_  -- l10
      refine S_val (Y_move rfl) ?_
      refine S_val (Y_index Try.underlying32 sz39 rfl rfl (by first | assumption | omega)) ?_
      refine S_val (Y_field Try.underlying39 rfl fz39_2 (by decide) rfl) ?_
      refine S_val (Y_load Try.underlying33 rfl rfl (by first | assumption | exact cc3.at (by rfl) | exact B1.at (by rfl) | exact B2.at (by rfl))) ?_  -- l11
      refine S_val (Y_len Try.underlying33 rfl) ?_
      refine S_val (Y_lss rfl rfl) ?_
      refine S_nl rfl rfl ?_
      refine th_n (hK16 _ _ ?_)
      clear hK16 K16
      refine S_if rfl (fun hb3 => ?_) (fun hb3 => ?_)  -- c4
      · -- c4T
       replace hb3 := nb_tt hb3
       have hj1 : j < h.cells[k].refs.length := by omega
       obtain ⟨g4, o4, rfl, hp4, hc4⟩ := hE3.int hj1
       have htj := List.take_succ_eq_append_getElem hj1
       refine wp_skip ?_
       refine th_n (hK15 _ _ ?_)
       clear hK15 K15
       refine wp_seq_k fun K17 hK17 => ?_
       refine wp_block ?_
       refine wp_seq_k fun K18 hK18 => ?_
       refine Sb 79 rfl ?_  -- 13
       refine S_val (Y_field Try.underlying35 rfl fz35_0 (by decide) rfl) ?_
       refine S_val (Y_load Try.underlying32 rfl rfl (B1.at (by rfl))) ?_  -- l12
       refine S_val (Y_move rfl) ?_
       refine S_val (Y_index Try.underlying32 sz39 rfl rfl (by first | assumption | omega)) ?_
       refine S_val (Y_field Try.underlying39 rfl fz39_2 (by decide) rfl) ?_
       refine S_val (Y_load Try.underlying33 rfl rfl (by first | assumption | exact cc3.at (by rfl) | exact B1.at (by rfl) | exact B2.at (by rfl))) ?_  -- l13
       refine S_val (Y_move rfl) ?_
       refine S_val (Y_index Try.underlying33 sz3 rfl rfl (by first | assumption | omega)) ?_
       refine S_val (Y_load Try.underlying3 rfl rfl (by first | assumption | exact cc3.at (by rfl) | exact B1.at (by rfl) | exact B2.at (by rfl))) ?_  -- l14
       refine S_val (Y_assign rfl) ?_
       refine S_nl rfl rfl ?_
       refine th_n (hK18 _ _ ?_)
       clear hK18 K18
       refine wp_seq_k fun K19 hK19 => ?_
       refine Sb 79 rfl ?_  -- 14
       refine S_val (Y_move rfl) ?_
       refine S_val (Y_geq rfl rfl) ?_
       refine S_nl rfl rfl ?_
       refine th_n (hK19 _ _ ?_)
       clear hK19 K19
       refine S_if rfl (fun hb4 => ?_) (fun hb4 => ?_)  -- c5
       · -- c5T
        replace hb4 := nb_tt hb4
        obtain ⟨n, hn, hnN⟩ := ref_at (hl.refs hk1) hj1 hb4
        rw [hn] at htj
        rw [hn]
        have hcle := count_le (n : Int) (h.roots ++ refsUp h.cells (fun _ => false) k ++ h.cells[k].refs.take j)
        rw [List.length_append, List.length_append, List.length_take] at hcle
        have hcel : w8.cell? ⟨b2, 0 + n * 1, none⟩ = some (.int .i64 (((h.roots ++ refsUp h.cells (fun _ => false) k ++ h.cells[k].refs.take j).count (n : Int) : Nat) : Int)) := by rw [Nat.zero_add, Nat.mul_one]; exact B2.at (by rw [List.getElem?_toArray]; exact ints_get (cntL_get hnN))
        refine Sb 79 rfl ?_  -- 15
        refine S_val (Y_move rfl) ?_
        refine S_val (Y_move rfl) ?_
        refine S_val (Y_move rfl) ?_
        refine S_val (Y_move rfl) ?_
        refine S_val (Y_index Try.underlying33 sz3 rfl rfl (by first | assumption | omega)) ?_
        refine S_val (Y_load Try.underlying3 rfl rfl (by first | assumption | exact cc3.at (by rfl) | exact B1.at (by rfl) | exact B2.at (by rfl))) ?_  -- l15
        refine S_val (Y_inc rfl rfl (by omega)) ?_
        refine S_val (Y_index Try.underlying33 sz3 rfl rfl (by first | assumption | omega)) ?_
        refine S_stM (pre := (ints (cntL h.cells.length (h.roots ++ refsUp h.cells (fun _ => false) k ++ h.cells[k].refs.take j))).take n) (old := [.int .i64 (((h.roots ++ refsUp h.cells (fun _ => false) k ++ h.cells[k].refs.take j).count (n : Int) : Nat) : Int)]) (post := (ints (cntL h.cells.length (h.roots ++ refsUp h.cells (fun _ => false) k ++ h.cells[k].refs.take j))).drop (n + 1)) (vs := [_]) sz3 rfl rfl rfl rfl (by rw [← cntL_split hnN]; exact B2) (by rw [List.length_take, ints_len, cntL_len]; omega) rfl ?_
        intro w9 m9 X9
        replace B2 := Blk.eq X9 (cntL_set hnN)
        clear X9
        replace G := G.abv m9
        replace GL7 := GL7.trn m9
        replace GL8 := GL8.trn m9
        replace hAl := hAl0.grow G
        replace hBl := hBl0.grow G
        replace cc3 := cc30.grow G
        replace hE3 := hE30.grow G
        replace B1 := B1.md m9
        have zm9 := m9.size
        refine S_nl rfl rfl ?_
        refine ib_n ?_
        refine th_n (hK17 _ _ ?_)
        clear hK17 K17
        refine Sb 79 rfl ?_  -- 12
        refine S_val (Y_move rfl) ?_
        refine S_val (Y_inc rfl rfl (by omega)) ?_
        refine S_val (Y_assign rfl) ?_
        refine S_nl rfl rfl ?_
        refine th_n ?_
        go_roundw  -- e3 of L3
        case rel =>
         refine ⟨?_, GL8⟩
         exact ⟨j + 1, rfl, by omega, by rw [htj, ← List.append_assoc]; exact B2⟩
        case measure =>
         exact dec_nat (by omega)
       · -- c5F
        replace hb4 := nb_tf hb4
        refine wp_skip ?_
        refine ib_n ?_
        refine th_n (hK17 _ _ ?_)
        clear hK17 K17
        refine Sb 79 rfl ?_  -- 12
        refine S_val (Y_move rfl) ?_
        refine S_val (Y_inc rfl rfl (by omega)) ?_
        refine S_val (Y_assign rfl) ?_
        refine S_nl rfl rfl ?_
        refine th_n ?_
        go_roundw  -- e4 of L3
        case rel =>
         refine ⟨?_, GL8⟩
         exact ⟨j + 1, rfl, by omega, by rw [htj, ← List.append_assoc, cntL_neg hb4]; exact B2⟩
        case measure =>
         exact dec_nat (by omega)
      · -- c4F
       replace hb3 := nb_tf hb3
       refine wp_exit ?_
       refine th_x ?_
       try clear GL8
       refine th_x ?_
       refine ib_e ?_
       refine ib_n ?_
       refine th_n (hK13 _ _ ?_)
       clear hK15 K15 hK13 K13
       refine Sb 79 rfl ?_  -- 9
       refine S_val (Y_move rfl) ?_
       refine S_val (Y_inc rfl rfl (by omega)) ?_
       refine S_val (Y_assign rfl) ?_
       refine S_nl rfl rfl ?_
       refine th_n ?_
       go_roundw  -- e5 of L2
       case rel =>
        refine ⟨?_, GL7⟩
        rw [List.take_of_length_le (by omega)] at B2
        exact ⟨k + 1, rfl, by omega, by rw [refsUp_succ hk1 rfl, ← List.append_assoc]; exact B2⟩
       case measure =>
        exact dec_nat (by omega)
    · -- c3F
     replace hb2 := nb_tf hb2
     refine wp_exit ?_
     refine th_x ?_
     try clear GL7
     refine th_x ?_
     refine ib_e ?_
     refine th_n (hK9 _ _ ?_)
     clear hK11 K11 hK9 K9
     refine wp_seq_k fun K20 hK20 => ?_
     refine Sb 79 rfl ?_  -- 16
     refine S_val (Y_move rfl) ?_
     refine S_val (Y_assign rfl) ?_
     refine S_nl rfl rfl ?_
     refine th_n (hK20 _ _ ?_)
     clear hK20 K20
     refine wp_ret ?_
     refine ret_r1 rfl rfl ?_  -- r1
     have : k = h.cells.length := by omega
     subst this
     exact ⟨b2, rfl, by omega, B2, G⟩
set_option maxHeartbeats 400000 in
set_option maxRecDepth 20000 in
theorem impl_refCounts_1_c (E : Option Addr) (xs ys : List Int) (e N lo bo bc : Nat) (w : World) (hE : R1 (fun k => k < lo) w E (ints xs)) (Bo : Blk w bo 33 [.slice (some ⟨bc, 0, none⟩) N N].toArray) (Bc : Blk w bc 3 (ints (cntL N ys)).toArray) (hr : ∀ x ∈ xs, nn x = true → 0 ≤ x ∧ x < (N : Int)) (hx : ys.length + xs.length ≤ 1048576) (h9 : lo ≤ bc ∧ bo ≠ bc) :
    Calls Try.prog 110 #[.slice E xs.length e, .pointer (some ⟨bo, 0, none⟩)] w (Ret fun _v w' => Blk w' bc 3 (ints (cntL N (ys ++ xs))).toArray ∧ Mod (fun i => i = bc) w w') := by
 obtain ⟨p1, p2⟩ := h9
 refine enter Try.func110 rfl Try.ntmps110 (L := [_,_,_,_,_,_,_,_,_,_,_,_,_,_,_,_,_,_,_,_]) rfl ?_
 have G := Mod.refl (fun i => i = bc) w
 refine wp_seq_k fun K1 hK1 => ?_
 refine Sb 20 rfl ?_  -- 0
 refine S_val (Y_move rfl) ?_
 refine S_val (Y_len Try.underlying33 rfl) ?_
 refine S_val (Y_move rfl) ?_
 refine S_nl rfl rfl ?_
 refine th_n (hK1 _ _ ?_)
 clear hK1 K1
 refine wp_block ?_
 go_loopw [7] (fun u7 wr => (∃ k : Nat, u7 = .int .i64 k ∧ k ≤ xs.length ∧ Blk wr bc 3 (ints (cntL N (ys ++ xs.take k))).toArray) ∧ Mod (fun i => i = bc) w wr) (fun u7 wr => xs.length - (intOf u7).toNat)  -- L1
 case atStart =>
  refine ⟨?_, Mod.refl _ _⟩
  exact ⟨0, rfl, by omega, by simpa using Bc⟩
 case round =>
  obtain ⟨w1, rfl⟩ : ∃ x : World, x = wr := ⟨_, rfl⟩
  obtain ⟨hrel, g1⟩ := hrel
  clear Bc
  replace G := Mod.trans' G g1 (fun _ h _ => h) (fun i h _ => h)
  replace hE := hE.md g1
  replace Bo := Bo.md g1
  have zg1 := g1.size
  obtain ⟨k, rfl, hk, Bc⟩ := hrel
  have GL1 := g1
  refine wp_seq_k fun K2 hK2 => ?_
  refine Sb 20 rfl ?_  -- 1
  refine S_val (Y_lss rfl rfl) ?_
  refine S_nl rfl rfl ?_
  refine th_n (hK2 _ _ ?_)
  clear hK2 K2
  refine wp_seq_k fun K3 hK3 => ?_
  refine S_if rfl (fun hb1 => ?_) (fun hb1 => ?_)  -- c1
  · -- c1T
   replace hb1 := nb_tt hb1
   have hk1 : k < xs.length := by omega
   obtain ⟨g1, o1, rfl, hp1, hc1⟩ := hE.int hk1
   have htk := List.take_succ_eq_append_getElem hk1
   refine wp_skip ?_
   refine th_n (hK3 _ _ ?_)
   clear hK3 K3
   refine wp_seq_k fun K4 hK4 => ?_
   refine wp_block ?_
   refine wp_seq_k fun K5 hK5 => ?_
   refine Sb 20 rfl ?_  -- 2
   refine S_val (Y_index Try.underlying33 sz3 rfl rfl (by first | assumption | omega)) ?_
   refine S_val (Y_load Try.underlying3 rfl rfl (by first | assumption | exact Bo.at (by rfl) | exact Bc.at (by rfl))) ?_  -- l1
   refine S_val (Y_assign rfl) ?_
   refine S_nl rfl rfl ?_
   refine th_n (hK5 _ _ ?_)
   clear hK5 K5
   refine wp_seq_k fun K6 hK6 => ?_
   refine Sb 20 rfl ?_  -- 3
   refine S_val (Y_move rfl) ?_
   refine S_val (Y_geq rfl rfl) ?_
   refine S_nl rfl rfl ?_
   refine th_n (hK6 _ _ ?_)
   clear hK6 K6
   refine S_if rfl (fun hb2 => ?_) (fun hb2 => ?_)  -- c2
   · -- c2T
    replace hb2 := nb_tt hb2
    obtain ⟨n, hn, hnN⟩ := ref_at hr hk1 hb2
    rw [hn] at htk
    rw [hn]
    have hcle := count_le (n : Int) (ys ++ xs.take k)
    rw [List.length_append, List.length_take] at hcle
    have hcel : w1.cell? ⟨bc, 0 + n * 1, none⟩ = some (.int .i64 (((ys ++ xs.take k).count (n : Int) : Nat) : Int)) := by rw [Nat.zero_add, Nat.mul_one]; exact Bc.at (by rw [List.getElem?_toArray]; exact ints_get (cntL_get hnN))
    refine Sb 20 rfl ?_  -- 4
    refine S_val (Y_load Try.underlying33 rfl rfl (by first | assumption | exact Bo.at (by rfl) | exact Bc.at (by rfl))) ?_  -- l2
    refine S_val (Y_move rfl) ?_
    refine S_val (Y_index Try.underlying33 sz3 rfl rfl (by first | assumption | omega)) ?_
    refine S_val (Y_load Try.underlying3 rfl rfl (by first | assumption | exact Bo.at (by rfl) | exact Bc.at (by rfl))) ?_  -- l3
    refine S_val (Y_inc rfl rfl (by omega)) ?_
    refine S_val (Y_index Try.underlying33 sz3 rfl rfl (by first | assumption | omega)) ?_
    refine S_stM (pre := (ints (cntL N (ys ++ xs.take k))).take n) (old := [.int .i64 (((ys ++ xs.take k).count (n : Int) : Nat) : Int)]) (post := (ints (cntL N (ys ++ xs.take k))).drop (n + 1)) (vs := [_]) sz3 rfl rfl rfl rfl (by rw [← cntL_split hnN]; exact Bc) (by rw [List.length_take, ints_len, cntL_len]; omega) rfl ?_
    intro w2 m2 X2
    replace Bc := Blk.eq X2 (cntL_set hnN)
    clear X2
    replace G := Mod.trans' G m2 (fun _ h _ => h) (fun i h _ => h)
    replace GL1 := GL1.trn m2
    replace hE := hE.md m2
    replace Bo := Bo.md m2
    have zm2 := m2.size
    refine S_nl rfl rfl ?_
    refine ib_n ?_
    refine th_n (hK4 _ _ ?_)
    clear hK4 K4
    refine Sb 20 rfl ?_  -- 5
    refine S_val (Y_inc rfl rfl (by omega)) ?_
    refine S_val (Y_move rfl) ?_
    refine S_nl rfl rfl ?_
    refine th_n ?_
    go_roundw  -- e1 of L1
    case rel =>
     refine ⟨?_, GL1⟩
     exact ⟨k + 1, rfl, by omega, by rw [htk, ← List.append_assoc]; exact Bc⟩
    case measure =>
     exact dec_nat (by omega)
   · -- c2F
    replace hb2 := nb_tf hb2
    refine wp_skip ?_
    refine ib_n ?_
    refine th_n (hK4 _ _ ?_)
    clear hK4 K4
    refine Sb 20 rfl ?_  -- 5
    refine S_val (Y_inc rfl rfl (by omega)) ?_
    refine S_val (Y_move rfl) ?_
    refine S_nl rfl rfl ?_
    refine th_n ?_
    go_roundw  -- e2 of L1
    case rel =>
     refine ⟨?_, GL1⟩
     exact ⟨k + 1, rfl, by omega, by rw [htk, ← List.append_assoc, cntL_neg hb2]; exact Bc⟩
    case measure =>
     exact dec_nat (by omega)
  · -- c1F
   replace hb1 := nb_tf hb1
   refine wp_exit ?_
   refine th_x ?_
   try clear GL1
   refine th_x ?_
   refine ib_e ?_
   clear hK3 K3
   refine ret_n0 rfl ?_  -- r1
   rw [List.take_of_length_le (by omega)] at Bc
   exact ⟨Bc, G⟩
set_option maxHeartbeats 400000 in
set_option maxRecDepth 20000 in
theorem impl_refCounts_c (Pr : Nat → Prop) (A B : Option Addr) (h : LH) (c d m : Nat) (w : World) (hA : RC Pr w A h.cells) (hB : R1 Pr w B (ints h.roots)) (hz : hsize h ≤ 1048576) (hl : Leads h.cells h.roots nn) (hm64 : m < 2 ^ 64) :
    Calls Try.prog 79 #[.agg #[.slice A h.cells.length c, .slice B h.roots.length d], .int .u64 (m : Int)] w (Ret fun v w' => ∃ b, v = .slice (some ⟨b, 0, none⟩) h.cells.length h.cells.length ∧ w.heap.size ≤ b ∧ Blk w' b 3 (ints (cntL h.cells.length (refsAll h fun i => m.testBit i))).toArray ∧ Grow w w') := by
 have hz1 := hsize_cells h
 have hz2 := hsize_roots h
 have hz3 : ∀ k (hk : k < h.cells.length), h.cells[k].refs.length ≤ hsize h := fun k hk => hsize_refs h hk
 have hz4 : h.roots.length + rsum h.cells h.cells.length ≤ hsize h := by unfold hsize; omega
 have hAl := hA.below
 have hBl := hB.below
 refine enter Try.func79 rfl Try.ntmps79 (L := [_,_,_,_,_,_,_,_,_,_,_,_,_,_,_,_,_,_,_,_,_,_,_,_,_,_,_,_,_,_,_,_,_,_,_,_]) rfl ?_
 have G := Mod.refl No w
 have hAl0 := hAl
 have hBl0 := hBl
 refine wp_seq_k fun K1 hK1 => ?_
 refine Sb 36 rfl ?_  -- 0
 refine S_box (cs := [_, _]) rfl rfl ?_
 intro b1 w1 fb1 g1 B1
 have lb1 := B1.lt
 replace hAl := hAl.grow g1
 replace hBl := hBl.grow g1
 replace G := G.grow g1
 have zg1 := g1.size
 refine S_val (Y_assign rfl) ?_
 refine S_nl rfl rfl ?_
 refine th_n (hK1 _ _ ?_)
 clear hK1 K1
 refine wp_seq_k fun K2 hK2 => ?_
 refine Sb 36 rfl ?_  -- 1
 refine S_val (Y_field Try.underlying35 rfl fz35_0 (by decide) rfl) ?_
 refine S_val (Y_load Try.underlying32 rfl rfl (B1.at (by rfl))) ?_  -- l1
 refine S_val (Y_len Try.underlying32 rfl) ?_
 refine S_make (z := [.int .i64 0]) Try.underlying33 zr3 sz3 by3 rfl rfl (by omega) (by omega) (by omega) ?_
 intro b2 w2 fb2 g2 B2
 rw [cntL_zero] at B2
 have lb2 := B2.lt
 replace hAl := hAl.grow g2
 replace hBl := hBl.grow g2
 replace G := G.grow g2
 replace B1 := B1.grow g2
 have zg2 := g2.size
 refine S_alloc (cs := [_]) zr33 rfl ?_
 intro b3 w3 fb3 g3 B3
 have lb3 := B3.lt
 replace hAl := hAl.grow g3
 replace hBl := hBl.grow g3
 replace G := G.grow g3
 replace B1 := B1.grow g3
 replace B2 := B2.grow g3
 have zg3 := g3.size
 refine S_stM (pre := []) (old := [_]) (post := []) (vs := [_]) sz33 rfl rfl rfl (by first | rfl | assumption) B3 rfl rfl ?_
 intro w4 m4 X4
 replace B3 := Blk.eq (ys := [_]) X4 rfl
 clear X4
 replace G := G.abv m4
 replace hAl := hAl0.grow G
 replace hBl := hBl0.grow G
 replace B1 := B1.md m4
 replace B2 := B2.md m4
 have zm4 := m4.size
 refine S_nl rfl rfl ?_
 refine th_n (hK2 _ _ ?_)
 clear hK2 K2
 refine wp_seq_k fun K3 hK3 => ?_
 refine Sb 36 rfl ?_  -- 2
 refine S_val (Y_makeFunc rfl rfl) ?_
 refine S_val (Y_assign rfl) ?_
 refine S_nl rfl rfl ?_
 refine th_n (hK3 _ _ ?_)
 clear hK3 K3
 refine wp_seq_k fun K4 hK4 => ?_
 refine Sb 36 rfl ?_  -- 3
 refine S_val (Y_move rfl) ?_
 refine S_val (Y_field Try.underlying35 rfl fz35_1 (by decide) rfl) ?_
 refine S_val (Y_load Try.underlying33 rfl rfl (B1.at (by rfl))) ?_  -- l2
 refine S_callc rfl rfl en110 (impl_refCounts_1_c _ _ _ _ h.cells.length w.heap.size b3 b2 _ hBl B3 B2 hl.1 (by rw [List.length_nil]; omega) ⟨by omega, by omega⟩) ?_  -- k1
 rintro v5 w5 ⟨X5, m5⟩
 replace B2 := X5
 clear X5
 replace G := G.abv m5
 replace hAl := hAl0.grow G
 replace hBl := hBl0.grow G
 replace B1 := B1.md m5
 replace B3 := B3.md m5
 have zm5 := m5.size
 rw [List.nil_append] at B2
 refine S_nl rfl rfl ?_
 refine th_n (hK4 _ _ ?_)
 clear hK4 K4
 refine wp_seq_k fun K5 hK5 => ?_
 refine wp_seq_k fun K6 hK6 => ?_
 refine Sb 36 rfl ?_  -- 4
 refine S_val (Y_field Try.underlying35 rfl fz35_0 (by decide) rfl) ?_
 refine S_val (Y_load Try.underlying32 rfl rfl (B1.at (by rfl))) ?_  -- l3
 refine S_val (Y_len Try.underlying32 rfl) ?_
 refine S_val (Y_move rfl) ?_
 refine S_nl rfl rfl ?_
 refine th_n (hK6 _ _ ?_)
 clear hK6 K6
 refine wp_block ?_
 go_loopw [21] (fun u21 wr => (∃ k : Nat, u21 = .int .i64 k ∧ k ≤ h.cells.length ∧ Blk wr b2 3 (ints (cntL h.cells.length (h.roots ++ refsUp h.cells (fun i => m.testBit i) k))).toArray) ∧ Mod (fun i => i = b2) w5 wr) (fun u21 wr => h.cells.length - (intOf u21).toNat)  -- L1
 case atStart =>
  refine ⟨?_, Mod.refl _ _⟩
  exact ⟨0, rfl, by omega, by simpa [refsUp] using B2⟩
 case round =>
  obtain ⟨w6, rfl⟩ : ∃ x : World, x = wr := ⟨_, rfl⟩
  obtain ⟨hrel, g6⟩ := hrel
  clear B2
  replace G := G.abv g6
  replace hAl := hAl0.grow G
  replace hBl := hBl0.grow G
  replace B1 := B1.md g6
  replace B3 := B3.md g6
  have zg6 := g6.size
  obtain ⟨k, rfl, hk, B2⟩ := hrel
  have GL6 := g6
  refine wp_seq_k fun K7 hK7 => ?_
  refine Sb 36 rfl ?_  -- 5
  refine S_val (Y_lss rfl rfl) ?_
  refine S_nl rfl rfl ?_
  refine th_n (hK7 _ _ ?_)
  clear hK7 K7
  refine wp_seq_k fun K8 hK8 => ?_
  refine S_if rfl (fun hb1 => ?_) (fun hb1 => ?_)  -- c1
  · -- c1T
   replace hb1 := nb_tt hb1
   have hk1 : k < h.cells.length := by omega
   obtain ⟨g5, o5, E5, d5, rfl, hp5, cc50, hE50⟩ := hAl0.cell hk1
   have cc5 := cc50.grow G
   have hE5 := hE50.grow G
   have hz5 := hz3 k hk1
   have hq1 := refsUp_le (cs := h.cells) (sk := fun i => m.testBit i) (Nat.le_of_lt hk1)
   have hq2 := rsum_succ hk1
   have hq3 := rsum_mono (cs := h.cells) (k := k + 1) (n := h.cells.length) (by omega) (Nat.le_refl _)
   refine wp_skip ?_
   refine th_n (hK8 _ _ ?_)
   clear hK8 K8
   refine wp_seq_k fun K9 hK9 => ?_
   refine wp_block ?_
   refine wp_seq_k fun K10 hK10 => ?_
   refine Sb 36 rfl ?_  -- 6
   refine S_val (Y_move rfl) ?_
   refine S_val (Y_index Try.underlying32 sz39 rfl rfl (by first | assumption | omega)) ?_
   refine S_val (Y_loadS Try.underlying39 rfl sz39 rfl (by first | assumption | exact B1.row (by rfl) | exact B3.row (by rfl) | exact B2.row (by rfl))) ?_  -- l4
   refine S_alloc (cs := [_, _, _]) zr39 rfl ?_
   intro b7 w7 fb7 g7 B7
   have lb7 := B7.lt
   replace hAl := hAl.grow g7
   replace hBl := hBl.grow g7
   replace cc5 := cc5.grow g7
   replace hE5 := hE5.grow g7
   replace G := G.grow g7
   replace GL6 := GL6.grow g7
   replace B1 := B1.grow g7
   replace B3 := B3.grow g7
   replace B2 := B2.grow g7
   have zg7 := g7.size
   refine S_val (Y_assign rfl) ?_
   refine S_stM (pre := []) (old := [_, _, _]) (post := []) (vs := [_, _, _]) sz39 rfl rfl rfl (by first | rfl | assumption) B7 rfl rfl ?_
   intro w8 m8 X8
   replace B7 := Blk.eq (ys := [_, _, _]) X8 rfl
   clear X8
   replace G := G.abv m8
   first | replace GL6 := GL6.abv m8 | clear GL6
   replace hAl := hAl0.grow G
   replace hBl := hBl0.grow G
   replace cc5 := cc50.grow G
   replace hE5 := hE50.grow G
   replace B1 := B1.md m8
   replace B3 := B3.md m8
   replace B2 := B2.md m8
   have zm8 := m8.size
   refine S_nl rfl rfl ?_
   refine th_n (hK10 _ _ ?_)
   clear hK10 K10
   refine wp_seq_k fun K11 hK11 => ?_
   refine Sb 36 rfl ?_  -- 7
   refine S_val (Y_move rfl) ?_
   refine S_val (Y_move rfl) ?_
   refine S_call rfl en73 (impl_cellSet_has_c _ _ _ (by assumption)) ?_  -- k2 (impl.cellSet).has
   rintro v w' ⟨rfl, rfl⟩
   refine S_val (Y_not rfl) ?_
   refine S_nl rfl rfl ?_
   refine th_n (hK11 _ _ ?_)
   clear hK11 K11
   refine S_if rfl (fun hb2 => ?_) (fun hb2 => ?_)  -- c2
   · -- c2T
    first | with_reducible (replace hb2 := nb_nt hb2) | with_reducible (replace hb2 := nb_tt hb2) | with_reducible (replace hb2 := nb_bt hb2) | skip
    rw [hasB_nat] at hb2
    refine Sb 36 rfl ?_  -- 8
    refine S_val (Y_move rfl) ?_
    refine S_val (Y_field Try.underlying39 rfl fz39_2 (by decide) rfl) ?_
    refine S_val (Y_load Try.underlying33 rfl rfl (B7.at (by rfl))) ?_  -- l5
    refine S_callc rfl rfl en110 (impl_refCounts_1_c _ _ _ _ h.cells.length w.heap.size b3 b2 _ hE5 B3 B2 (hl.refs hk1) (by rw [List.length_append]; omega) ⟨by omega, by omega⟩) ?_  -- k3
    rintro v10 w10 ⟨X10, m10⟩
    replace B2 := X10
    clear X10
    replace G := G.abv m10
    replace GL6 := GL6.trn m10
    replace hAl := hAl0.grow G
    replace hBl := hBl0.grow G
    replace cc5 := cc50.grow G
    replace hE5 := hE50.grow G
    replace B1 := B1.md m10
    replace B3 := B3.md m10
    replace B7 := B7.md m10
    have zm10 := m10.size
    refine S_nl rfl rfl ?_
    refine ib_n ?_
    refine th_n (hK9 _ _ ?_)
    clear hK9 K9
    refine Sb 36 rfl ?_  -- 9
    refine S_val (Y_inc rfl rfl (by omega)) ?_
    refine S_val (Y_move rfl) ?_
    refine S_nl rfl rfl ?_
    refine th_n ?_
    go_roundw  -- e1 of L1
    case rel =>
     refine ⟨?_, GL6⟩
     exact ⟨k + 1, rfl, by omega, by rw [refsUp_succ hk1 hb2, ← List.append_assoc]; exact B2⟩
    case measure =>
     exact dec_nat (by omega)
   · -- c2F
    first | with_reducible (replace hb2 := nb_nf hb2) | with_reducible (replace hb2 := nb_tf hb2) | with_reducible (replace hb2 := nb_bf hb2) | skip
    rw [hasB_nat] at hb2
    refine wp_skip ?_
    refine ib_n ?_
    refine th_n (hK9 _ _ ?_)
    clear hK9 K9
    refine Sb 36 rfl ?_  -- 9
    refine S_val (Y_inc rfl rfl (by omega)) ?_
    refine S_val (Y_move rfl) ?_
    refine S_nl rfl rfl ?_
    refine th_n ?_
    go_roundw  -- e2 of L1
    case rel =>
     refine ⟨?_, GL6⟩
     exact ⟨k + 1, rfl, by omega, by rw [refsUp_skip hb2]; exact B2⟩
    case measure =>
     exact dec_nat (by omega)
  · -- c1F
   replace hb1 := nb_tf hb1
   refine wp_exit ?_
   refine th_x ?_
   try clear GL6
   refine th_x ?_
   refine ib_e ?_
   refine th_n (hK5 _ _ ?_)
   clear hK8 K8 hK5 K5
   refine wp_seq_k fun K12 hK12 => ?_
   refine Sb 36 rfl ?_  -- 10
   refine S_val (Y_load Try.underlying33 rfl rfl (B3.at (by rfl))) ?_  -- l6
   refine S_val (Y_assign rfl) ?_
   refine S_nl rfl rfl ?_
   refine th_n (hK12 _ _ ?_)
   clear hK12 K12
   refine wp_ret ?_
   refine ret_r1 rfl rfl ?_  -- r1
   have : k = h.cells.length := by omega
   subst this
   exact ⟨b2, rfl, by omega, B2, G⟩
set_option maxHeartbeats 400000 in
set_option maxRecDepth 20000 in
theorem spec_RefCounts_c (Pr : Nat → Prop) (A B : Option Addr) (h : LH) (c d : Nat) (w : World) (hA : RC Pr w A h.cells) (hB : R1 Pr w B (ints h.roots)) (hz : hsize h ≤ 1048576) :
    Calls Try.prog 43 #[.agg #[.slice A h.cells.length c, .slice B h.roots.length d]] w (Ret fun v w' => ∃ A1 q cap, v = .slice A1 q cap ∧ q = (countsV h).length ∧ OI (fun i => w.heap.size ≤ i) w' 3 A1 (ints (countsV h)) ∧ Grow w w') := by
 refine enter Try.func43 rfl Try.ntmps43 (L := [_,_,_,_,_,_,_,_,_]) rfl ?_
 have G := Mod.refl No w
 have hA0 := hA
 have hB0 := hB
 refine wp_seq_k fun K1 hK1 => ?_
 refine Sb 9 rfl ?_  -- 0
 refine S_box (cs := [_, _]) rfl rfl ?_
 intro b1 w1 fb1 g1 B1
 have lb1 := B1.lt
 replace hA := hA.grow g1
 replace hB := hB.grow g1
 replace G := G.grow g1
 have zg1 := g1.size
 refine S_val (Y_assign rfl) ?_
 refine S_nl rfl rfl ?_
 refine th_n (hK1 _ _ ?_)
 clear hK1 K1
 refine wp_seq_k fun K2 hK2 => ?_
 refine wp_seq_k fun K3 hK3 => ?_
 refine Sb 9 rfl ?_  -- 1
 refine S_val (Y_loadS Try.underlying35 rfl sz35 rfl (B1.row (by rfl))) ?_  -- l1
 refine S_call rfl en34 (spec_HeapValid_c _ _ _ _ _ _ _ (by assumption) (by assumption) (by omega)) ?_  -- k1 spec.HeapValid
 rintro v2 w2 ⟨rfl, g2⟩
 replace hA := hA.grow g2
 replace hB := hB.grow g2
 replace G := G.grow g2
 replace B1 := B1.grow g2
 have zg2 := g2.size
 refine S_val (Y_not rfl) ?_
 refine S_nl rfl rfl ?_
 refine th_n (hK3 _ _ ?_)
 clear hK3 K3
 refine S_if rfl (fun hb1 => ?_) (fun hb1 => ?_)  -- c1
 · -- c1T
  first | with_reducible (replace hb1 := nb_nt hb1) | with_reducible (replace hb1 := nb_tt hb1) | with_reducible (replace hb1 := nb_bt hb1) | skip
  refine wp_seq_k fun K4 hK4 => ?_
  refine Sb 9 rfl ?_  -- 2
  refine S_bs0 Try.underlying33 sz3 ?_
  intro b3 w3 fb3 g3 B3
  have lb3 := B3.lt
  replace hA := hA.grow g3
  replace hB := hB.grow g3
  replace G := G.grow g3
  replace B1 := B1.grow g3
  have zg3 := g3.size
  refine S_val (Y_assign rfl) ?_
  refine S_nl rfl rfl ?_
  refine th_n (hK4 _ _ ?_)
  clear hK4 K4
  refine wp_ret ?_
  refine th_r ?_
  clear hK2 K2
  refine ret_r1 rfl rfl ?_  -- r1
  exact ⟨_, _, _, rfl, by rw [countsV_f hb1]; rfl, by rw [countsV_f hb1]; exact OI.nil _ _ _ _, G⟩
 · -- c1F
  first | with_reducible (replace hb1 := nb_nf hb1) | with_reducible (replace hb1 := nb_tf hb1) | with_reducible (replace hb1 := nb_bf hb1) | skip
  have va := valid_iff.1 hb1
  have hl := va.leads
  have h40 := va.le
  have hr4 := va.roots4
  refine wp_skip ?_
  refine th_n (hK2 _ _ ?_)
  clear hK2 K2
  refine wp_seq_k fun K5 hK5 => ?_
  refine Sb 9 rfl ?_  -- 3
  refine S_val (Y_loadS Try.underlying35 rfl sz35 rfl (B1.row (by rfl))) ?_  -- l2
  refine S_call rfl en80 (spec_l7Counts_c _ _ _ _ _ _ _ (by assumption) (by assumption) (by omega) (by assumption)) ?_  -- k2 spec.l7Counts
  rintro v4 w4 ⟨b4, rfl, fb4, B4, g4⟩
  replace hA := hA.grow g4
  replace hB := hB.grow g4
  replace G := G.grow g4
  replace B1 := B1.grow g4
  have zg4 := g4.size
  have lb4 := B4.lt
  refine S_val (Y_assign rfl) ?_
  refine S_nl rfl rfl ?_
  refine th_n (hK5 _ _ ?_)
  clear hK5 K5
  refine wp_ret ?_
  refine ret_r1 rfl rfl ?_  -- r2
  exact ⟨_, _, _, rfl, by rw [countsV_t hb1, cntL_len], by rw [countsV_t hb1]; exact OI.of_blk' (by first | assumption | (simp only [Nat.zero_testBit] at B3; assumption)) (by omega), G⟩
set_option maxHeartbeats 400000 in
set_option maxRecDepth 20000 in
theorem impl_RefCounts_c (Pr : Nat → Prop) (A B : Option Addr) (h : LH) (c d : Nat) (w : World) (hA : RC Pr w A h.cells) (hB : R1 Pr w B (ints h.roots)) (hz : hsize h ≤ 1048576) :
    Calls Try.prog 42 #[.agg #[.slice A h.cells.length c, .slice B h.roots.length d]] w (Ret fun v w' => ∃ A1 q cap, v = .slice A1 q cap ∧ q = (countsV h).length ∧ OI (fun i => w.heap.size ≤ i) w' 3 A1 (ints (countsV h)) ∧ Grow w w') := by
 refine enter Try.func42 rfl Try.ntmps42 (L := [_,_,_,_,_,_,_,_]) rfl ?_
 have G := Mod.refl No w
 have hA0 := hA
 have hB0 := hB
 refine wp_seq_k fun K1 hK1 => ?_
 refine Sb 8 rfl ?_  -- 0
 refine S_box (cs := [_, _]) rfl rfl ?_
 intro b1 w1 fb1 g1 B1
 have lb1 := B1.lt
 replace hA := hA.grow g1
 replace hB := hB.grow g1
 replace G := G.grow g1
 have zg1 := g1.size
 refine S_val (Y_assign rfl) ?_
 refine S_nl rfl rfl ?_
 refine th_n (hK1 _ _ ?_)
 clear hK1 K1
 refine wp_seq_k fun K2 hK2 => ?_
 refine wp_seq_k fun K3 hK3 => ?_
 refine Sb 8 rfl ?_  -- 1
 refine S_val (Y_loadS Try.underlying35 rfl sz35 rfl (B1.row (by rfl))) ?_  -- l1
 refine S_call rfl en50 (impl_HeapValid_c _ _ _ _ _ _ _ (by assumption) (by assumption) (by omega)) ?_  -- k1 impl.HeapValid
 rintro v2 w2 ⟨rfl, g2⟩
 replace hA := hA.grow g2
 replace hB := hB.grow g2
 replace G := G.grow g2
 replace B1 := B1.grow g2
 have zg2 := g2.size
 refine S_val (Y_not rfl) ?_
 refine S_nl rfl rfl ?_
 refine th_n (hK3 _ _ ?_)
 clear hK3 K3
 refine S_if rfl (fun hb1 => ?_) (fun hb1 => ?_)  -- c1
 · -- c1T
  first | with_reducible (replace hb1 := nb_nt hb1) | with_reducible (replace hb1 := nb_tt hb1) | with_reducible (replace hb1 := nb_bt hb1) | skip
  refine wp_seq_k fun K4 hK4 => ?_
  refine Sb 8 rfl ?_  -- 2
  refine S_val (Y_assign rfl) ?_
  refine S_nl rfl rfl ?_
  refine th_n (hK4 _ _ ?_)
  clear hK4 K4
  refine wp_ret ?_
  refine th_r ?_
  clear hK2 K2
  refine ret_r1 rfl rfl ?_  -- r1
  exact ⟨_, _, _, rfl, by rw [countsV_f hb1]; rfl, by rw [countsV_f hb1]; exact OI.nil _ _ _ _, G⟩
 · -- c1F
  first | with_reducible (replace hb1 := nb_nf hb1) | with_reducible (replace hb1 := nb_tf hb1) | with_reducible (replace hb1 := nb_bf hb1) | skip
  have va := valid_iff.1 hb1
  have hl := va.leads
  have h40 := va.le
  have hr4 := va.roots4
  refine wp_skip ?_
  refine th_n (hK2 _ _ ?_)
  clear hK2 K2
  refine wp_seq_k fun K5 hK5 => ?_
  refine Sb 8 rfl ?_  -- 3
  refine S_val (Y_loadS Try.underlying35 rfl sz35 rfl (B1.row (by rfl))) ?_  -- l2
  refine S_call rfl en79 (impl_refCounts_c _ _ _ _ _ _ _ _ (by assumption) (by assumption) (by omega) (by assumption) (by first | assumption | decide)) ?_  -- k2 impl.refCounts
  rintro v3 w3 ⟨b3, rfl, fb3, B3, g3⟩
  replace hA := hA.grow g3
  replace hB := hB.grow g3
  replace G := G.grow g3
  replace B1 := B1.grow g3
  have zg3 := g3.size
  have lb3 := B3.lt
  refine S_val (Y_assign rfl) ?_
  refine S_nl rfl rfl ?_
  refine th_n (hK5 _ _ ?_)
  clear hK5 K5
  refine wp_ret ?_
  refine ret_r1 rfl rfl ?_  -- r2
  exact ⟨_, _, _, rfl, by rw [countsV_t hb1, cntL_len], by rw [countsV_t hb1]; exact OI.of_blk' (by first | assumption | (simp only [Nat.zero_testBit] at B3; assumption)) (by omega), G⟩
end
/-! WalkU -/
section
open Go Go.RowKit
attribute [local irreducible] wpList wpAnyH Code.wp dOp
set_option maxHeartbeats 400000 in
set_option maxRecDepth 20000 in
theorem impl_isUsed_c (Pr : Nat → Prop) (A B : Option Addr) (h : LH) (c d : Nat) (x : Int) (w : World) (hA : RC Pr w A h.cells) (hB : R1 Pr w B (ints h.roots)) (hz : hsize h ≤ 1048576) :
    Calls Try.prog 90 #[.agg #[.slice A h.cells.length c, .slice B h.roots.length d], .int .i64 x] w (Ret fun v w' => v = .bool (usedR h x) ∧ Grow w w') := by
 have hz1 := hsize_cells h
 have hz2 := hsize_roots h
 refine enter Try.func90 rfl Try.ntmps90 (L := [_,_,_,_,_,_,_,_,_,_,_,_,_,_,_,_,_,_,_,_,_,_,_,_,_,_]) rfl ?_
 have G := Mod.refl No w
 have hA0 := hA
 have hB0 := hB
 refine wp_seq_k fun K1 hK1 => ?_
 refine Sb 26 rfl ?_  -- 0
 refine S_box (cs := [_, _]) rfl rfl ?_
 intro b1 w1 fb1 g1 B1
 have lb1 := B1.lt
 replace hA := hA.grow g1
 replace hB := hB.grow g1
 replace G := G.grow g1
 have zg1 := g1.size
 refine S_val (Y_assign rfl) ?_
 refine S_nl rfl rfl ?_
 refine th_n (hK1 _ _ ?_)
 clear hK1 K1
 refine wp_seq_k fun K2 hK2 => ?_
 refine Sb 26 rfl ?_  -- 1
 refine S_val (Y_loadS Try.underlying35 rfl sz35 rfl (B1.row (by rfl))) ?_  -- l1
 refine S_call rfl en50 (impl_HeapValid_c _ _ _ _ _ _ _ (by assumption) (by assumption) (by omega)) ?_  -- k1 impl.HeapValid
 rintro v2 w2 ⟨rfl, g2⟩
 replace hA := hA.grow g2
 replace hB := hB.grow g2
 replace G := G.grow g2
 replace B1 := B1.grow g2
 have zg2 := g2.size
 refine S_val (Y_move rfl) ?_
 refine S_g 7 rfl (fun hb1 => ?_) (fun hb1 => ?_)  -- g1
 · -- g1T
  first | with_reducible (replace hb1 := nb_nt hb1) | with_reducible (replace hb1 := nb_tt hb1) | with_reducible (replace hb1 := nb_bt hb1) | skip
  refine S_on rfl rfl ?_
  refine S_val (Y_move rfl) ?_
  refine S_on rfl rfl ?_
  refine S_val (Y_geq rfl rfl) ?_
  refine S_val (Y_pickT rfl rfl) ?_
  refine S_val (Y_move rfl) ?_
  refine S_g 11 rfl (fun hb2 => ?_) (fun hb2 => ?_)  -- g2
  · -- g2T
   first | with_reducible (replace hb2 := nb_nt hb2) | with_reducible (replace hb2 := nb_tt hb2) | with_reducible (replace hb2 := nb_bt hb2) | skip
   obtain ⟨n, rfl⟩ := Int.eq_ofNat_of_zero_le (show 0 ≤ x by omega)
   refine S_on rfl rfl ?_
   refine S_val (Y_move rfl) ?_
   refine S_on rfl rfl ?_
   refine S_val (Y_field Try.underlying35 rfl fz35_0 (by decide) rfl) ?_
   refine S_on rfl rfl ?_
   refine S_val (Y_load Try.underlying32 rfl rfl (B1.at (by rfl))) ?_  -- l2
   refine S_on rfl rfl ?_
   refine S_val (Y_len Try.underlying32 rfl) ?_
   refine S_on rfl rfl ?_
   refine S_val (Y_lss rfl rfl) ?_
   refine S_val (Y_pickT rfl rfl) ?_
   refine S_val (Y_move rfl) ?_
   refine S_g 18 rfl (fun hb3 => ?_) (fun hb3 => ?_)  -- g3
   · -- g3T
    first | with_reducible (replace hb3 := nb_nt hb3) | with_reducible (replace hb3 := nb_tt hb3) | with_reducible (replace hb3 := nb_bt hb3) | skip
    have hnN : n < h.cells.length := by omega
    obtain ⟨g2, o2, E2, d2, rfl, hp2, cc20, _⟩ := hA0.cell hnN
    have cc2 := cc20.grow G
    refine S_on rfl rfl ?_
    refine S_val (Y_field Try.underlying35 rfl fz35_0 (by decide) rfl) ?_
    refine S_on rfl rfl ?_
    refine S_val (Y_load Try.underlying32 rfl rfl (B1.at (by rfl))) ?_  -- l3
    refine S_on rfl rfl ?_
    refine S_val (Y_move rfl) ?_
    refine S_on rfl rfl ?_
    refine S_val (Y_index Try.underlying32 sz39 rfl rfl (by first | assumption | omega)) ?_
    refine S_on rfl rfl ?_
    refine S_val (Y_field Try.underlying39 rfl fz39_0 (by decide) rfl) ?_
    refine S_on rfl rfl ?_
    refine S_val (Y_load Try.underlying4 rfl rfl (by first | assumption | exact cc2.at (by rfl) | exact B1.at (by rfl))) ?_  -- l4
    refine S_val (Y_pickT rfl rfl) ?_
    refine S_val (Y_assign rfl) ?_
    refine S_nl rfl rfl ?_
    refine th_n (hK2 _ _ ?_)
    clear hK2 K2
    refine wp_ret ?_
    refine ret_r1 rfl rfl ?_  -- r1
    exact ⟨by rw [usedR_at hb1 hnN], G⟩
   · -- g3F
    first | with_reducible (replace hb3 := nb_nf hb3) | with_reducible (replace hb3 := nb_tf hb3) | with_reducible (replace hb3 := nb_bf hb3) | skip
    refine S_off rfl rfl ?_
    refine S_off rfl rfl ?_
    refine S_off rfl rfl ?_
    refine S_off rfl rfl ?_
    refine S_off rfl rfl ?_
    refine S_off rfl rfl ?_
    refine S_val (Y_pickF rfl rfl) ?_
    refine S_val (Y_assign rfl) ?_
    refine S_nl rfl rfl ?_
    refine th_n (hK2 _ _ ?_)
    clear hK2 K2
    refine wp_ret ?_
    refine ret_r1 rfl rfl ?_  -- r2
    exact ⟨by rw [usedR_big (by omega)], G⟩
  · -- g2F
   first | with_reducible (replace hb2 := nb_nf hb2) | with_reducible (replace hb2 := nb_tf hb2) | with_reducible (replace hb2 := nb_bf hb2) | skip
   refine S_off rfl rfl ?_
   refine S_off rfl rfl ?_
   refine S_off rfl rfl ?_
   refine S_off rfl rfl ?_
   refine S_off rfl rfl ?_
   refine S_val (Y_pickF rfl rfl) ?_
   refine S_val (Y_move rfl) ?_
   refine S_off rfl rfl ?_
   refine S_off rfl rfl ?_
   refine S_off rfl rfl ?_
   refine S_off rfl rfl ?_
   refine S_off rfl rfl ?_
   refine S_off rfl rfl ?_
   refine S_val (Y_pickF rfl rfl) ?_
   refine S_val (Y_assign rfl) ?_
   refine S_nl rfl rfl ?_
   refine th_n (hK2 _ _ ?_)
   clear hK2 K2
   refine wp_ret ?_
   refine ret_r1 rfl rfl ?_  -- r3
   exact ⟨by rw [usedR_neg (by omega)], G⟩
 · -- g1F
  first | with_reducible (replace hb1 := nb_nf hb1) | with_reducible (replace hb1 := nb_tf hb1) | with_reducible (replace hb1 := nb_bf hb1) | skip
  refine S_off rfl rfl ?_
  refine S_off rfl rfl ?_
  refine S_val (Y_pickF rfl rfl) ?_
  refine S_val (Y_move rfl) ?_
  refine S_off rfl rfl ?_
  refine S_off rfl rfl ?_
  refine S_off rfl rfl ?_
  refine S_off rfl rfl ?_
  refine S_off rfl rfl ?_
  refine S_val (Y_pickF rfl rfl) ?_
  refine S_val (Y_move rfl) ?_
  refine S_off rfl rfl ?_
  refine S_off rfl rfl ?_
  refine S_off rfl rfl ?_
  refine S_off rfl rfl ?_
  refine S_off rfl rfl ?_
  refine S_off rfl rfl ?_
  refine S_val (Y_pickF rfl rfl) ?_
  refine S_val (Y_assign rfl) ?_
  refine S_nl rfl rfl ?_
  refine th_n (hK2 _ _ ?_)
  clear hK2 K2
  refine wp_ret ?_
  refine ret_r1 rfl rfl ?_  -- r4
  exact ⟨by rw [usedR_f hb1], G⟩
set_option maxHeartbeats 400000 in
set_option maxRecDepth 20000 in
theorem impl_cellsFrom_c (Pr : Nat → Prop) (A B : Option Addr) (h : LH) (c d : Nat) (x : Int) (w : World) (hA : RC Pr w A h.cells) (hB : R1 Pr w B (ints h.roots)) (hz : hsize h ≤ 1048576) (va : Valid h) :
    Calls Try.prog 91 #[.agg #[.slice A h.cells.length c, .slice B h.roots.length d], .int .i64 x] w (Ret fun v w' => ∃ m u : Nat, v = .int .u64 (m : Int) ∧ m < 2 ^ 64 ∧ SetOf u (usedL h.cells) ∧ (∀ n, m.testBit n = true ↔ Rch h.cells [x] (hasB u) n) ∧ Grow w w') := by
 have hz1 := hsize_cells h
 have hz2 := hsize_roots h
 have h40 := va.le
 refine enter Try.func91 rfl Try.ntmps91 (L := [_,_,_,_,_,_,_,_,_,_,_]) rfl ?_
 have G := Mod.refl No w
 have hA0 := hA
 have hB0 := hB
 refine wp_seq_k fun K1 hK1 => ?_
 refine Sb 11 rfl ?_  -- 0
 refine S_box (cs := [_, _]) rfl rfl ?_
 intro b1 w1 fb1 g1 B1
 have lb1 := B1.lt
 replace hA := hA.grow g1
 replace hB := hB.grow g1
 replace G := G.grow g1
 have zg1 := g1.size
 refine S_val (Y_assign rfl) ?_
 refine S_nl rfl rfl ?_
 refine th_n (hK1 _ _ ?_)
 clear hK1 K1
 refine wp_seq_k fun K2 hK2 => ?_
 refine D_start 7 11 (fun w => Mod (No) w) follows rfl rfl ?_  -- d1 r1
 intro w2 g2
 replace hA := hA.grow g2
 replace hB := hB.grow g2
 replace G := G.grow g2
 replace B1 := B1.grow g2
 have zg2 := g2.size
 have GS2 := Mod.refl (No) w2
 have B1d2 := B1
 refine Dq (i := 0) rfl GS2 (fun _ hs => Y_loadS Try.underlying35 rfl sz35 rfl (by first | exact hs.cells0 (B1.row (by rfl)))) ?_
 refine Dq (i := 1) rfl GS2 (fun _ _ => Y_move rfl) ?_
 refine Dq (i := 3) rfl GS2 (fun _ hs => Y_loadS Try.underlying35 rfl sz35 rfl (by first | exact hs.cells0 (B1.row (by rfl)))) ?_
 refine D_2 (i := 2) (j := 4) (by kernel_rfl) ?_ ?_
 · -- operation 2 comes up
  refine E_bs1 (cs := [_]) (i := 2) rfl Try.underlying33 zr3 sz3 rfl rfl rfl ?_
  intro b3 w3 fb3 g3 B3
  refine ⟨GS2.grow g3, ?_⟩
  have lb3 := B3.lt
  replace hA := hA.grow g3
  replace hB := hB.grow g3
  replace G := G.grow g3
  replace GS2 := GS2.grow g3
  replace B1 := B1.grow g3
  have zg3 := g3.size
  refine D_1 (i := 4) (by kernel_rfl) ?_
  refine E_call rfl rfl en68 (impl_usedSet_c _ _ _ _ _ _ _ (by assumption) (by omega)) ?_  -- k1 impl.usedSet
  rintro v4 w4 ⟨s4, rfl, hs4, g4⟩
  replace hA := hA.grow g4
  replace hB := hB.grow g4
  replace G := G.grow g4
  replace GS2 := GS2.grow g4
  replace B1 := B1.grow g4
  replace B3 := B3.grow g4
  have zg4 := g4.size
  refine ⟨GS2, ?_⟩
  refine D_1 (i := 5) (by kernel_rfl) ?_
  refine E_call rfl rfl en109 (impl_closure_c _ _ _ _ _ h [x] _ _ _ _ _ hA (R1.of_blkE (us := ints [x]) B3) (by omega) (by simp) hs4.1 hs4.lt (by omega)) ?_  -- k2 impl.closure
  rintro v5 w5 ⟨s5, rfl, hs5, hr5, g5⟩
  replace hA := hA.grow g5
  replace hB := hB.grow g5
  replace G := G.grow g5
  replace GS2 := GS2.grow g5
  replace B1 := B1.grow g5
  replace B3 := B3.grow g5
  have zg5 := g5.size
  refine ⟨GS2, ?_⟩
  refine Dq (i := 6) rfl GS2 (fun _ _ => Y_assign rfl) ?_
  refine D_en (by kernel_rfl) rfl rfl ?_
  refine th_n (hK2 _ _ ?_)
  clear hK2 K2
  refine wp_ret ?_
  refine ret_r1 rfl rfl ?_  -- r1
  exact ⟨_, _, rfl, hs5, hs4, hr5, G⟩
 · -- operation 4 comes up
  refine E_call rfl rfl en68 (impl_usedSet_c _ _ _ _ _ _ _ (by assumption) (by omega)) ?_  -- k3 impl.usedSet
  rintro v6 w6 ⟨s6, rfl, hs6, g6⟩
  replace hA := hA.grow g6
  replace hB := hB.grow g6
  replace G := G.grow g6
  replace GS2 := GS2.grow g6
  replace B1 := B1.grow g6
  have zg6 := g6.size
  refine ⟨GS2, ?_⟩
  refine D_1 (i := 2) (by kernel_rfl) ?_
  refine E_bs1 (cs := [_]) (i := 2) rfl Try.underlying33 zr3 sz3 rfl rfl rfl ?_
  intro b7 w7 fb7 g7 B7
  refine ⟨GS2.grow g7, ?_⟩
  have lb7 := B7.lt
  replace hA := hA.grow g7
  replace hB := hB.grow g7
  replace G := G.grow g7
  replace GS2 := GS2.grow g7
  replace B1 := B1.grow g7
  have zg7 := g7.size
  refine D_1 (i := 5) (by kernel_rfl) ?_
  refine E_call rfl rfl en109 (impl_closure_c _ _ _ _ _ h [x] _ _ _ _ _ hA (R1.of_blkE (us := ints [x]) B7) (by omega) (by simp) hs6.1 hs6.lt (by omega)) ?_  -- k4 impl.closure
  rintro v8 w8 ⟨s8, rfl, hs8, hr8, g8⟩
  replace hA := hA.grow g8
  replace hB := hB.grow g8
  replace G := G.grow g8
  replace GS2 := GS2.grow g8
  replace B1 := B1.grow g8
  replace B7 := B7.grow g8
  have zg8 := g8.size
  refine ⟨GS2, ?_⟩
  refine Dq (i := 6) rfl GS2 (fun _ _ => Y_assign rfl) ?_
  refine D_en (by kernel_rfl) rfl rfl ?_
  refine th_n (hK2 _ _ ?_)
  clear hK2 K2
  refine wp_ret ?_
  refine ret_r1 rfl rfl ?_  -- r2
  exact ⟨_, _, rfl, hs8, hs6, hr8, G⟩
set_option maxHeartbeats 400000 in
set_option maxRecDepth 20000 in
theorem impl_CellsFrom_c (Pr : Nat → Prop) (A B : Option Addr) (h : LH) (c d : Nat) (x : Int) (w : World) (hA : RC Pr w A h.cells) (hB : R1 Pr w B (ints h.roots)) (hz : hsize h ≤ 1048576) :
    Calls Try.prog 53 #[.agg #[.slice A h.cells.length c, .slice B h.roots.length d], .int .i64 x] w (Ret fun v w' => ∃ A1 q cap, v = .slice A1 q cap ∧ q = (fromV h x).length ∧ OI (fun i => w.heap.size ≤ i) w' 4 A1 (bools (fromV h x)) ∧ Grow w w') := by
 have hz1 := hsize_cells h
 have hz2 := hsize_roots h
 refine enter Try.func53 rfl Try.ntmps53 (L := [_,_,_,_,_,_,_,_,_,_,_,_,_,_,_,_]) rfl ?_
 have G := Mod.refl No w
 have hA0 := hA
 have hB0 := hB
 refine wp_seq_k fun K1 hK1 => ?_
 refine Sb 16 rfl ?_  -- 0
 refine S_box (cs := [_, _]) rfl rfl ?_
 intro b1 w1 fb1 g1 B1
 have lb1 := B1.lt
 replace hA := hA.grow g1
 replace hB := hB.grow g1
 replace G := G.grow g1
 have zg1 := g1.size
 refine S_val (Y_assign rfl) ?_
 refine S_nl rfl rfl ?_
 refine th_n (hK1 _ _ ?_)
 clear hK1 K1
 refine wp_seq_k fun K2 hK2 => ?_
 refine wp_seq_k fun K3 hK3 => ?_
 refine Sb 16 rfl ?_  -- 1
 refine S_val (Y_loadS Try.underlying35 rfl sz35 rfl (B1.row (by rfl))) ?_  -- l1
 refine S_val (Y_move rfl) ?_
 refine S_call rfl en90 (impl_isUsed_c _ _ _ _ _ _ _ _ (by assumption) (by assumption) (by omega)) ?_  -- k1 impl.isUsed
 rintro v2 w2 ⟨rfl, g2⟩
 replace hA := hA.grow g2
 replace hB := hB.grow g2
 replace G := G.grow g2
 replace B1 := B1.grow g2
 have zg2 := g2.size
 refine S_val (Y_not rfl) ?_
 refine S_nl rfl rfl ?_
 refine th_n (hK3 _ _ ?_)
 clear hK3 K3
 refine S_if rfl (fun hb1 => ?_) (fun hb1 => ?_)  -- c1
 · -- c1T
  first | with_reducible (replace hb1 := nb_nt hb1) | with_reducible (replace hb1 := nb_tt hb1) | with_reducible (replace hb1 := nb_bt hb1) | skip
  refine wp_seq_k fun K4 hK4 => ?_
  refine Sb 16 rfl ?_  -- 2
  refine S_val (Y_assign rfl) ?_
  refine S_nl rfl rfl ?_
  refine th_n (hK4 _ _ ?_)
  clear hK4 K4
  refine wp_ret ?_
  refine th_r ?_
  clear hK2 K2
  refine ret_r1 rfl rfl ?_  -- r1
  exact ⟨_, _, _, rfl, by rw [fromV_f hb1]; rfl, by rw [fromV_f hb1]; exact OI.nil _ _ _ _, G⟩
 · -- c1F
  first | with_reducible (replace hb1 := nb_nf hb1) | with_reducible (replace hb1 := nb_tf hb1) | with_reducible (replace hb1 := nb_bf hb1) | skip
  obtain ⟨n, rfl, hnN, hv, hun⟩ := usedR_lt hb1
  have va := valid_iff.1 hv
  have h40 := va.le
  refine wp_skip ?_
  refine th_n (hK2 _ _ ?_)
  clear hK2 K2
  refine wp_seq_k fun K5 hK5 => ?_
  refine D_start 8 16 (fun w => Mod (No) w) follows rfl rfl ?_  -- d1 r3
  intro w3 g3
  replace hA := hA.grow g3
  replace hB := hB.grow g3
  replace G := G.grow g3
  replace B1 := B1.grow g3
  have zg3 := g3.size
  have GS3 := Mod.refl (No) w3
  have B1d3 := B1
  refine Dq (i := 0) rfl GS3 (fun _ hs => Y_loadS Try.underlying35 rfl sz35 rfl (by first | exact hs.cells0 (B1.row (by rfl)))) ?_
  refine Dq (i := 1) rfl GS3 (fun _ _ => Y_move rfl) ?_
  refine Dq (i := 3) rfl GS3 (fun _ _ => Y_field Try.underlying35 rfl fz35_0 (by decide) rfl) ?_
  refine Dq (i := 4) rfl GS3 (fun _ hs => Y_load Try.underlying32 rfl rfl (hs.cell0 (B1.at (by rfl)))) ?_
  refine Dq (i := 5) rfl GS3 (fun _ _ => Y_len Try.underlying32 rfl) ?_
  refine D_1 (i := 2) (by kernel_rfl) ?_
  refine E_call rfl rfl en91 (impl_cellsFrom_c _ _ _ _ _ _ _ _ (by assumption) (by assumption) (by omega) (by assumption)) ?_  -- k2 impl.cellsFrom
  rintro v4 w4 ⟨m4, u4, rfl, hs4, hu4, hr4, g4⟩
  replace hA := hA.grow g4
  replace hB := hB.grow g4
  replace G := G.grow g4
  replace GS3 := GS3.grow g4
  replace B1 := B1.grow g4
  have zg4 := g4.size
  refine ⟨GS3, ?_⟩
  refine D_1 (i := 6) (by kernel_rfl) ?_
  refine E_call rfl rfl en69 (impl_cellSet_list_c _ _ _ (by first | assumption | exact SetOf.wlt (by assumption)) (by omega)) ?_  -- k3 (impl.cellSet).list
  rintro v5 w5 ⟨b5, rfl, fb5, B5, g5⟩
  replace hA := hA.grow g5
  replace hB := hB.grow g5
  replace G := G.grow g5
  replace GS3 := GS3.grow g5
  replace B1 := B1.grow g5
  have zg5 := g5.size
  have lb5 := B5.lt
  refine ⟨GS3, ?_⟩
  refine Dq (i := 7) rfl GS3 (fun _ _ => Y_assign rfl) ?_
  refine D_en (by kernel_rfl) rfl rfl ?_
  refine th_n (hK5 _ _ ?_)
  clear hK5 K5
  refine wp_ret ?_
  refine ret_r1 rfl rfl ?_  -- r2
  exact ⟨_, _, _, rfl, by rw [fromV_t hb1, mB_len], by rw [fromV_t hb1, ← list_eq (leads_one va hnN) (leadsU_one va hun) hu4 hr4]; exact OI.of_blk' (by assumption) (by omega), G⟩
set_option maxHeartbeats 400000 in
set_option maxRecDepth 20000 in
theorem spec_CellsFrom_c (Pr : Nat → Prop) (A B : Option Addr) (h : LH) (c d : Nat) (x : Int) (w : World) (hA : RC Pr w A h.cells) (hB : R1 Pr w B (ints h.roots)) (hz : hsize h ≤ 1048576) (hx : -9223372036854775808 ≤ x ∧ x ≤ 9223372036854775807) :
    Calls Try.prog 54 #[.agg #[.slice A h.cells.length c, .slice B h.roots.length d], .int .i64 x] w (Ret fun v w' => ∃ A1 q cap, v = .slice A1 q cap ∧ q = (fromV h x).length ∧ OI (fun i => w.heap.size ≤ i) w' 4 A1 (bools (fromV h x)) ∧ Grow w w') := by
 have hz1 := hsize_cells h
 have hz2 := hsize_roots h
 refine enter Try.func54 rfl Try.ntmps54 (L := [_,_,_,_,_,_,_,_,_,_,_,_,_,_,_,_,_,_,_,_,_,_,_,_,_,_,_,_,_,_,_]) rfl ?_
 have G := Mod.refl No w
 have hA0 := hA
 have hB0 := hB
 refine wp_seq_k fun K1 hK1 => ?_
 refine Sb 31 rfl ?_  -- 0
 refine S_box (cs := [_, _]) rfl rfl ?_
 intro b1 w1 fb1 g1 B1
 have lb1 := B1.lt
 replace hA := hA.grow g1
 replace hB := hB.grow g1
 replace G := G.grow g1
 have zg1 := g1.size
 refine S_val (Y_assign rfl) ?_
 refine S_nl rfl rfl ?_
 refine th_n (hK1 _ _ ?_)
 clear hK1 K1
 refine wp_seq_k fun K2 hK2 => ?_
 refine wp_seq_k fun K3 hK3 => ?_
 refine Sb 31 rfl ?_  -- 1
 refine S_val (Y_loadS Try.underlying35 rfl sz35 rfl (B1.row (by rfl))) ?_  -- l1
 refine S_call rfl en34 (spec_HeapValid_c _ _ _ _ _ _ _ (by assumption) (by assumption) (by omega)) ?_  -- k1 spec.HeapValid
 rintro v2 w2 ⟨rfl, g2⟩
 replace hA := hA.grow g2
 replace hB := hB.grow g2
 replace G := G.grow g2
 replace B1 := B1.grow g2
 have zg2 := g2.size
 refine S_val (Y_not rfl) ?_
 refine S_val (Y_move rfl) ?_
 refine S_g 8 rfl (fun hb1 => ?_) (fun hb1 => ?_)  -- g1
 · -- g1T
  first | with_reducible (replace hb1 := nb_nt hb1) | with_reducible (replace hb1 := nb_tt hb1) | with_reducible (replace hb1 := nb_bt hb1) | skip
  refine S_off rfl rfl ?_
  refine S_off rfl rfl ?_
  refine S_off rfl rfl ?_
  refine S_off rfl rfl ?_
  refine S_off rfl rfl ?_
  refine S_off rfl rfl ?_
  refine S_off rfl rfl ?_
  refine S_val (Y_pickT rfl rfl) ?_
  refine S_val (Y_move rfl) ?_
  refine S_off rfl rfl ?_
  refine S_off rfl rfl ?_
  refine S_off rfl rfl ?_
  refine S_off rfl rfl ?_
  refine S_off rfl rfl ?_
  refine S_off rfl rfl ?_
  refine S_off rfl rfl ?_
  refine S_val (Y_pickT rfl rfl) ?_
  refine S_nl rfl rfl ?_
  refine th_n (hK3 _ _ ?_)
  clear hK3 K3
  refine S_ifT rfl ?_
  refine wp_seq_k fun K4 hK4 => ?_
  refine Sb 31 rfl ?_  -- 2
  refine S_bs0 Try.underlying43 sz4 ?_
  intro b3 w3 fb3 g3 B3
  have lb3 := B3.lt
  replace hA := hA.grow g3
  replace hB := hB.grow g3
  replace G := G.grow g3
  replace B1 := B1.grow g3
  have zg3 := g3.size
  refine S_val (Y_assign rfl) ?_
  refine S_nl rfl rfl ?_
  refine th_n (hK4 _ _ ?_)
  clear hK4 K4
  refine wp_ret ?_
  refine th_r ?_
  clear hK2 K2
  refine ret_r1 rfl rfl ?_  -- r1
  exact ⟨_, _, _, rfl, by rw [fromV_f (usedR_f hb1)]; rfl, by rw [fromV_f (usedR_f hb1)]; exact OI.nil _ _ _ _, G⟩
 · -- g1F
  first | with_reducible (replace hb1 := nb_nf hb1) | with_reducible (replace hb1 := nb_tf hb1) | with_reducible (replace hb1 := nb_bf hb1) | skip
  have va := valid_iff.1 hb1
  have hl := va.leads
  have h40 := va.le
  have hr4 := va.roots4
  refine S_on rfl rfl ?_
  refine S_val (Y_move rfl) ?_
  refine S_on rfl rfl ?_
  refine S_val (Y_field Try.underlying35 rfl fz35_0 (by decide) rfl) ?_
  refine S_on rfl rfl ?_
  refine S_val (Y_load Try.underlying32 rfl rfl (B1.at (by rfl))) ?_  -- l2
  refine S_on rfl rfl ?_
  refine S_val (Y_len Try.underlying32 rfl) ?_
  refine S_on rfl rfl ?_
  refine S_val (Y_sub rfl rfl rfl (by omega) (by omega)) ?_
  refine S_on rfl rfl ?_
  refine S_call rfl en61 (spec_l1In_c _ _ _ _) ?_  -- k2 spec.l1In
  rintro v w' ⟨rfl, rfl⟩
  refine S_on rfl rfl ?_
  refine S_val (Y_not rfl) ?_
  refine S_val (Y_pickF rfl rfl) ?_
  refine S_val (Y_move rfl) ?_
  refine S_g 17 rfl (fun hb2 => ?_) (fun hb2 => ?_)  -- g2
  · -- g2T
   first | with_reducible (replace hb2 := nb_nt hb2) | with_reducible (replace hb2 := nb_tt hb2) | with_reducible (replace hb2 := nb_bt hb2) | skip
   refine S_off rfl rfl ?_
   refine S_off rfl rfl ?_
   refine S_off rfl rfl ?_
   refine S_off rfl rfl ?_
   refine S_off rfl rfl ?_
   refine S_off rfl rfl ?_
   refine S_off rfl rfl ?_
   refine S_val (Y_pickT rfl rfl) ?_
   refine S_nl rfl rfl ?_
   refine th_n (hK3 _ _ ?_)
   clear hK3 K3
   refine S_ifT rfl ?_
   refine wp_seq_k fun K5 hK5 => ?_
   refine Sb 31 rfl ?_  -- 2
   refine S_bs0 Try.underlying43 sz4 ?_
   intro b5 w5 fb5 g5 B5
   have lb5 := B5.lt
   replace hA := hA.grow g5
   replace hB := hB.grow g5
   replace G := G.grow g5
   replace B1 := B1.grow g5
   have zg5 := g5.size
   refine S_val (Y_assign rfl) ?_
   refine S_nl rfl rfl ?_
   refine th_n (hK5 _ _ ?_)
   clear hK5 K5
   refine wp_ret ?_
   refine th_r ?_
   clear hK2 K2
   refine ret_r1 rfl rfl ?_  -- r2
   exact ⟨_, _, _, rfl, by rw [fromV_f (usedR_out hb2)]; rfl, by rw [fromV_f (usedR_out hb2)]; exact OI.nil _ _ _ _, G⟩
  · -- g2F
   first | with_reducible (replace hb2 := nb_nf hb2) | with_reducible (replace hb2 := nb_tf hb2) | with_reducible (replace hb2 := nb_bf hb2) | skip
   obtain ⟨n, rfl⟩ := Int.eq_ofNat_of_zero_le (show 0 ≤ x by omega)
   have hnN : n < h.cells.length := by omega
   obtain ⟨g2, o2, E2, d2, rfl, hp2, cc20, _⟩ := hA0.cell hnN
   have cc2 := cc20.grow G
   refine S_on rfl rfl ?_
   refine S_val (Y_field Try.underlying35 rfl fz35_0 (by decide) rfl) ?_
   refine S_on rfl rfl ?_
   refine S_val (Y_load Try.underlying32 rfl rfl (B1.at (by rfl))) ?_  -- l3
   refine S_on rfl rfl ?_
   refine S_val (Y_move rfl) ?_
   refine S_on rfl rfl ?_
   refine S_val (Y_index Try.underlying32 sz39 rfl rfl (by first | assumption | omega)) ?_
   refine S_on rfl rfl ?_
   refine S_val (Y_field Try.underlying39 rfl fz39_0 (by decide) rfl) ?_
   refine S_on rfl rfl ?_
   refine S_val (Y_load Try.underlying4 rfl rfl (by first | assumption | exact cc2.at (by rfl) | exact B1.at (by rfl))) ?_  -- l4
   refine S_on rfl rfl ?_
   refine S_val (Y_not rfl) ?_
   refine S_val (Y_pickF rfl rfl) ?_
   refine S_nl rfl rfl ?_
   refine th_n (hK3 _ _ ?_)
   clear hK3 K3
   refine S_if rfl (fun hb3 => ?_) (fun hb3 => ?_)  -- c1
   · -- c1T
    first | with_reducible (replace hb3 := nb_nt hb3) | with_reducible (replace hb3 := nb_tt hb3) | with_reducible (replace hb3 := nb_bt hb3) | skip
    refine wp_seq_k fun K6 hK6 => ?_
    refine Sb 31 rfl ?_  -- 2
    refine S_bs0 Try.underlying43 sz4 ?_
    intro b6 w6 fb6 g6 B6
    have lb6 := B6.lt
    replace hA := hA.grow g6
    replace hB := hB.grow g6
    replace cc2 := cc2.grow g6
    replace G := G.grow g6
    replace B1 := B1.grow g6
    have zg6 := g6.size
    refine S_val (Y_assign rfl) ?_
    refine S_nl rfl rfl ?_
    refine th_n (hK6 _ _ ?_)
    clear hK6 K6
    refine wp_ret ?_
    refine th_r ?_
    clear hK2 K2
    refine ret_r1 rfl rfl ?_  -- r3
    exact ⟨_, _, _, rfl, by rw [fromV_f (by rw [usedR_at hb1 hnN]; exact hb3)]; rfl, by rw [fromV_f (by rw [usedR_at hb1 hnN]; exact hb3)]; exact OI.nil _ _ _ _, G⟩
   · -- c1F
    first | with_reducible (replace hb3 := nb_nf hb3) | with_reducible (replace hb3 := nb_tf hb3) | with_reducible (replace hb3 := nb_bf hb3) | skip
    have hun : usedAt h.cells n = true := by rw [usedAt_at hnN]; exact hb3
    refine wp_skip ?_
    refine th_n (hK2 _ _ ?_)
    clear hK2 K2
    refine wp_seq_k fun K7 hK7 => ?_
    refine Sb 31 rfl ?_  -- 3
    refine S_val (Y_loadS Try.underlying35 rfl sz35 rfl (B1.row (by rfl))) ?_  -- l5
    refine S_val (Y_move rfl) ?_
    refine S_bs1 (cs := [_]) Try.underlying33 zr3 sz3 rfl rfl rfl ?_
    intro b7 w7 fb7 g7 B7
    have lb7 := B7.lt
    replace hA := hA.grow g7
    replace hB := hB.grow g7
    replace cc2 := cc2.grow g7
    replace G := G.grow g7
    replace B1 := B1.grow g7
    have zg7 := g7.size
    refine S_call rfl en70 (spec_l7Reach_c _ _ _ _ _ h [(n : Int)] _ _ _ _ hA (R1.of_blkE (us := ints [(n : Int)]) B7) (by omega) (by simp) (leads_one va hnN)) ?_  -- k3 spec.l7Reach
    rintro v8 w8 ⟨b8, rfl, fb8, B8, g8⟩
    replace hA := hA.grow g8
    replace hB := hB.grow g8
    replace cc2 := cc2.grow g8
    replace G := G.grow g8
    replace B1 := B1.grow g8
    replace B7 := B7.grow g8
    have zg8 := g8.size
    have lb8 := B8.lt
    refine S_val (Y_assign rfl) ?_
    refine S_nl rfl rfl ?_
    refine th_n (hK7 _ _ ?_)
    clear hK7 K7
    refine wp_ret ?_
    refine ret_r1 rfl rfl ?_  -- r4
    have hut : usedR h (n : Int) = true := by rw [usedR_at hb1 hnN]; exact hb3
    exact ⟨_, _, _, rfl, by rw [fromV_t hut, mB_len], by rw [fromV_t hut]; exact OI.of_blk' (by assumption) (by omega), G⟩
end
/-! WalkN -/
section
open Go Go.RowKit
attribute [local irreducible] wpList wpAnyH Code.wp dOp
set_option maxHeartbeats 400000 in
set_option maxRecDepth 20000 in
theorem spec_CommandValid_c (op a b c : Int) (w : World) :
    Calls Try.prog 17 #[.agg #[.int .i64 op, .int .i64 a, .int .i64 b, .int .i64 c]] w (Ret fun v w' => v = .bool (cvB ⟨op, a, b, c⟩) ∧ Grow w w') := by
 refine enter Try.func17 rfl Try.ntmps17 (L := [_,_,_,_,_,_,_,_,_,_,_,_,_,_,_,_,_,_,_,_,_,_,_,_,_,_,_,_,_,_,_,_,_,_,_,_,_,_,_,_,_,_,_,_,_,_,_,_,_,_,_,_,_,_,_,_,_,_,_,_,_,_,_,_,_,_,_,_,_,_,_,_,_,_,_]) rfl ?_
 have G := Mod.refl No w
 refine wp_seq_k fun K1 hK1 => ?_
 refine Sb 75 rfl ?_  -- 0
 refine S_box (cs := [_, _, _, _]) rfl rfl ?_
 intro b1 w1 fb1 g1 B1
 have lb1 := B1.lt
 replace G := G.grow g1
 have zg1 := g1.size
 refine S_val (Y_assign rfl) ?_
 refine S_nl rfl rfl ?_
 refine th_n (hK1 _ _ ?_)
 clear hK1 K1
 refine wp_seq_k fun K2 hK2 => ?_
 refine Sb 75 rfl ?_  -- 1
 refine S_val (Y_field Try.underlying24 rfl fz24_1 (by decide) rfl) ?_
 refine S_val (Y_load Try.underlying3 rfl rfl (B1.at (by rfl))) ?_  -- l1
 refine S_call rfl en61 (spec_l1In_c _ _ _ _) ?_  -- k1 spec.l1In
 rintro v w' ⟨rfl, rfl⟩
 refine S_val (Y_assign rfl) ?_
 refine S_nl rfl rfl ?_
 refine th_n (hK2 _ _ ?_)
 clear hK2 K2
 refine wp_seq_k fun K3 hK3 => ?_
 refine Sb 75 rfl ?_  -- 2
 refine S_val (Y_field Try.underlying24 rfl fz24_2 (by decide) rfl) ?_
 refine S_val (Y_load Try.underlying3 rfl rfl (B1.at (by rfl))) ?_  -- l2
 refine S_call rfl en61 (spec_l1In_c _ _ _ _) ?_  -- k2 spec.l1In
 rintro v w' ⟨rfl, rfl⟩
 refine S_val (Y_assign rfl) ?_
 refine S_nl rfl rfl ?_
 refine th_n (hK3 _ _ ?_)
 clear hK3 K3
 refine wp_seq_k fun K4 hK4 => ?_
 refine wp_seq_k fun K5 hK5 => ?_
 refine Sb 75 rfl ?_  -- 3
 refine S_val (Y_field Try.underlying24 rfl fz24_0 (by decide) rfl) ?_
 refine S_val (Y_load Try.underlying3 rfl rfl (B1.at (by rfl))) ?_  -- l3
 refine S_nl rfl rfl ?_
 refine th_n (hK5 _ _ ?_)
 clear hK5 K5
 refine wp_block ?_
 refine wp_seq_k fun K6 hK6 => ?_
 refine Sb 75 rfl ?_  -- 4
 refine S_val (Y_eql rfl rfl) ?_
 refine S_val (Y_assign rfl) ?_
 refine S_nl rfl rfl ?_
 refine th_n (hK6 _ _ ?_)
 clear hK6 K6
 refine S_if rfl (fun hb1 => ?_) (fun hb1 => ?_)  -- c1
 · -- c1T
  replace hb1 := nb_tt hb1
  refine wp_seq_k fun K7 hK7 => ?_
  refine Sb 75 rfl ?_  -- 5
  refine S_val (Y_move rfl) ?_
  refine S_val (Y_move rfl) ?_
  refine S_g 16 rfl (fun hb2 => ?_) (fun hb2 => ?_)  -- g1
  · -- g1T
   first | with_reducible (replace hb2 := nb_nt hb2) | with_reducible (replace hb2 := nb_tt hb2) | with_reducible (replace hb2 := nb_bt hb2) | skip
   refine S_on rfl rfl ?_
   refine S_val (Y_field Try.underlying24 rfl fz24_2 (by decide) rfl) ?_
   refine S_on rfl rfl ?_
   refine S_val (Y_load Try.underlying3 rfl rfl (B1.at (by rfl))) ?_  -- l4
   refine S_on rfl rfl ?_
   refine S_call rfl en61 (spec_l1In_c _ _ _ _) ?_  -- k3 spec.l1In
   rintro v w' ⟨rfl, rfl⟩
   refine S_val (Y_pickT rfl rfl) ?_
   refine S_val (Y_move rfl) ?_
   refine S_g 21 rfl (fun hb3 => ?_) (fun hb3 => ?_)  -- g2
   · -- g2T
    first | with_reducible (replace hb3 := nb_nt hb3) | with_reducible (replace hb3 := nb_tt hb3) | with_reducible (replace hb3 := nb_bt hb3) | skip
    refine S_on rfl rfl ?_
    refine S_val (Y_field Try.underlying24 rfl fz24_3 (by decide) rfl) ?_
    refine S_on rfl rfl ?_
    refine S_val (Y_load Try.underlying3 rfl rfl (B1.at (by rfl))) ?_  -- l5
    refine S_on rfl rfl ?_
    refine S_call rfl en61 (spec_l1In_c _ _ _ _) ?_  -- k4 spec.l1In
    rintro v w' ⟨rfl, rfl⟩
    refine S_val (Y_pickT rfl rfl) ?_
    refine S_val (Y_assign rfl) ?_
    refine S_nl rfl rfl ?_
    refine th_n (hK7 _ _ ?_)
    clear hK7 K7
    refine wp_ret ?_
    refine ib_r ?_
    refine th_r ?_
    clear hK4 K4
    refine ret_r1 rfl rfl ?_  -- r1
    exact ⟨by first | exact cvB_f (by unfold cvP; dsimp only; omega) | exact cvB_d (by unfold cvP; dsimp only; omega) | exact cvB_t (by unfold cvP; dsimp only; omega), G⟩
   · -- g2F
    first | with_reducible (replace hb3 := nb_nf hb3) | with_reducible (replace hb3 := nb_tf hb3) | with_reducible (replace hb3 := nb_bf hb3) | skip
    refine S_off rfl rfl ?_
    refine S_off rfl rfl ?_
    refine S_off rfl rfl ?_
    refine S_val (Y_pickF rfl rfl) ?_
    refine S_val (Y_assign rfl) ?_
    refine S_nl rfl rfl ?_
    refine th_n (hK7 _ _ ?_)
    clear hK7 K7
    refine wp_ret ?_
    refine ib_r ?_
    refine th_r ?_
    clear hK4 K4
    refine ret_r1 rfl rfl ?_  -- r2
    exact ⟨by first | exact cvB_f (by unfold cvP; dsimp only; omega) | exact cvB_d (by unfold cvP; dsimp only; omega) | exact cvB_t (by unfold cvP; dsimp only; omega), G⟩
  · -- g1F
   first | with_reducible (replace hb2 := nb_nf hb2) | with_reducible (replace hb2 := nb_tf hb2) | with_reducible (replace hb2 := nb_bf hb2) | skip
   refine S_off rfl rfl ?_
   refine S_off rfl rfl ?_
   refine S_off rfl rfl ?_
   refine S_val (Y_pickF rfl rfl) ?_
   refine S_val (Y_move rfl) ?_
   refine S_off rfl rfl ?_
   refine S_off rfl rfl ?_
   refine S_off rfl rfl ?_
   refine S_val (Y_pickF rfl rfl) ?_
   refine S_val (Y_assign rfl) ?_
   refine S_nl rfl rfl ?_
   refine th_n (hK7 _ _ ?_)
   clear hK7 K7
   refine wp_ret ?_
   refine ib_r ?_
   refine th_r ?_
   clear hK4 K4
   refine ret_r1 rfl rfl ?_  -- r3
   exact ⟨by first | exact cvB_f (by unfold cvP; dsimp only; omega) | exact cvB_d (by unfold cvP; dsimp only; omega) | exact cvB_t (by unfold cvP; dsimp only; omega), G⟩
 · -- c1F
  replace hb1 := nb_tf hb1
  refine wp_seq_k fun K8 hK8 => ?_
  refine wp_seq_k fun K9 hK9 => ?_
  refine Sb 75 rfl ?_  -- 6
  refine S_val (Y_eql rfl rfl) ?_
  refine S_val (Y_assign rfl) ?_
  refine S_nl rfl rfl ?_
  refine th_n (hK9 _ _ ?_)
  clear hK9 K9
  refine S_if rfl (fun hb2 => ?_) (fun hb2 => ?_)  -- c2
  · -- c2T
   replace hb2 := nb_tt hb2
   refine wp_skip ?_
   refine th_n (hK8 _ _ ?_)
   clear hK8 K8
   refine S_if rfl (fun hb3 => ?_) (fun hb3 => ?_)  -- c3
   · -- c3T
    replace hb3 := nb_tt hb3
    refine wp_seq_k fun K10 hK10 => ?_
    refine Sb 75 rfl ?_  -- 8
    refine S_val (Y_move rfl) ?_
    refine S_val (Y_move rfl) ?_
    refine S_g 30 rfl (fun hb4 => ?_) (fun hb4 => ?_)  -- g3
    · -- g3T
     first | with_reducible (replace hb4 := nb_nt hb4) | with_reducible (replace hb4 := nb_tt hb4) | with_reducible (replace hb4 := nb_bt hb4) | skip
     refine S_on rfl rfl ?_
     refine S_val (Y_move rfl) ?_
     refine S_val (Y_pickT rfl rfl) ?_
     refine S_val (Y_move rfl) ?_
     refine S_g 33 rfl (fun hb5 => ?_) (fun hb5 => ?_)  -- g4
     · -- g4T
      first | with_reducible (replace hb5 := nb_nt hb5) | with_reducible (replace hb5 := nb_tt hb5) | with_reducible (replace hb5 := nb_bt hb5) | skip
      refine S_on rfl rfl ?_
      refine S_val (Y_field Try.underlying24 rfl fz24_3 (by decide) rfl) ?_
      refine S_on rfl rfl ?_
      refine S_val (Y_load Try.underlying3 rfl rfl (B1.at (by rfl))) ?_  -- l6
      refine S_on rfl rfl ?_
      refine S_call rfl en61 (spec_l1In_c _ _ _ _) ?_  -- k5 spec.l1In
      rintro v w' ⟨rfl, rfl⟩
      refine S_val (Y_pickT rfl rfl) ?_
      refine S_val (Y_assign rfl) ?_
      refine S_nl rfl rfl ?_
      refine th_n (hK10 _ _ ?_)
      clear hK10 K10
      refine wp_ret ?_
      refine ib_r ?_
      refine th_r ?_
      clear hK4 K4
      refine ret_r1 rfl rfl ?_  -- r4
      exact ⟨by first | exact cvB_f (by unfold cvP; dsimp only; omega) | exact cvB_d (by unfold cvP; dsimp only; omega) | exact cvB_t (by unfold cvP; dsimp only; omega), G⟩
     · -- g4F
      first | with_reducible (replace hb5 := nb_nf hb5) | with_reducible (replace hb5 := nb_tf hb5) | with_reducible (replace hb5 := nb_bf hb5) | skip
      refine S_off rfl rfl ?_
      refine S_off rfl rfl ?_
      refine S_off rfl rfl ?_
      refine S_val (Y_pickF rfl rfl) ?_
      refine S_val (Y_assign rfl) ?_
      refine S_nl rfl rfl ?_
      refine th_n (hK10 _ _ ?_)
      clear hK10 K10
      refine wp_ret ?_
      refine ib_r ?_
      refine th_r ?_
      clear hK4 K4
      refine ret_r1 rfl rfl ?_  -- r5
      exact ⟨by first | exact cvB_f (by unfold cvP; dsimp only; omega) | exact cvB_d (by unfold cvP; dsimp only; omega) | exact cvB_t (by unfold cvP; dsimp only; omega), G⟩
    · -- g3F
     first | with_reducible (replace hb4 := nb_nf hb4) | with_reducible (replace hb4 := nb_tf hb4) | with_reducible (replace hb4 := nb_bf hb4) | skip
     refine S_off rfl rfl ?_
     refine S_val (Y_pickF rfl rfl) ?_
     refine S_val (Y_move rfl) ?_
     refine S_off rfl rfl ?_
     refine S_off rfl rfl ?_
     refine S_off rfl rfl ?_
     refine S_val (Y_pickF rfl rfl) ?_
     refine S_val (Y_assign rfl) ?_
     refine S_nl rfl rfl ?_
     refine th_n (hK10 _ _ ?_)
     clear hK10 K10
     refine wp_ret ?_
     refine ib_r ?_
     refine th_r ?_
     clear hK4 K4
     refine ret_r1 rfl rfl ?_  -- r6
     exact ⟨by first | exact cvB_f (by unfold cvP; dsimp only; omega) | exact cvB_d (by unfold cvP; dsimp only; omega) | exact cvB_t (by unfold cvP; dsimp only; omega), G⟩
   · -- c3F
    replace hb3 := nb_tf hb3
    refine wp_seq_k fun K11 hK11 => ?_
    refine Sb 75 rfl ?_  -- 9
    refine S_val (Y_eql rfl rfl) ?_
    refine S_val (Y_assign rfl) ?_
    refine S_nl rfl rfl ?_
    refine th_n (hK11 _ _ ?_)
    clear hK11 K11
    refine S_if rfl (fun hb4 => ?_) (fun hb4 => ?_)  -- c4
    · -- c4T
     replace hb4 := nb_tt hb4
     refine wp_seq_k fun K12 hK12 => ?_
     refine Sb 75 rfl ?_  -- 10
     refine S_val (Y_move rfl) ?_
     refine S_val (Y_move rfl) ?_
     refine S_g 41 rfl (fun hb5 => ?_) (fun hb5 => ?_)  -- g5
     · -- g5T
      first | with_reducible (replace hb5 := nb_nt hb5) | with_reducible (replace hb5 := nb_tt hb5) | with_reducible (replace hb5 := nb_bt hb5) | skip
      refine S_on rfl rfl ?_
      refine S_val (Y_move rfl) ?_
      refine S_val (Y_pickT rfl rfl) ?_
      refine S_val (Y_move rfl) ?_
      refine S_g 44 rfl (fun hb6 => ?_) (fun hb6 => ?_)  -- g6
      · -- g6T
       first | with_reducible (replace hb6 := nb_nt hb6) | with_reducible (replace hb6 := nb_tt hb6) | with_reducible (replace hb6 := nb_bt hb6) | skip
       refine S_on rfl rfl ?_
       refine S_val (Y_field Try.underlying24 rfl fz24_3 (by decide) rfl) ?_
       refine S_on rfl rfl ?_
       refine S_val (Y_load Try.underlying3 rfl rfl (B1.at (by rfl))) ?_  -- l7
       refine S_on rfl rfl ?_
       refine S_val (Y_eql rfl rfl) ?_
       refine S_val (Y_pickT rfl rfl) ?_
       refine S_val (Y_assign rfl) ?_
       refine S_nl rfl rfl ?_
       refine th_n (hK12 _ _ ?_)
       clear hK12 K12
       refine wp_ret ?_
       refine ib_r ?_
       refine th_r ?_
       clear hK4 K4
       refine ret_r1 rfl rfl ?_  -- r7
       exact ⟨by first | exact cvB_f (by unfold cvP; dsimp only; omega) | exact cvB_d (by unfold cvP; dsimp only; omega) | exact cvB_t (by unfold cvP; dsimp only; omega), G⟩
      · -- g6F
       first | with_reducible (replace hb6 := nb_nf hb6) | with_reducible (replace hb6 := nb_tf hb6) | with_reducible (replace hb6 := nb_bf hb6) | skip
       refine S_off rfl rfl ?_
       refine S_off rfl rfl ?_
       refine S_off rfl rfl ?_
       refine S_val (Y_pickF rfl rfl) ?_
       refine S_val (Y_assign rfl) ?_
       refine S_nl rfl rfl ?_
       refine th_n (hK12 _ _ ?_)
       clear hK12 K12
       refine wp_ret ?_
       refine ib_r ?_
       refine th_r ?_
       clear hK4 K4
       refine ret_r1 rfl rfl ?_  -- r8
       exact ⟨by first | exact cvB_f (by unfold cvP; dsimp only; omega) | exact cvB_d (by unfold cvP; dsimp only; omega) | exact cvB_t (by unfold cvP; dsimp only; omega), G⟩
     · -- g5F
      first | with_reducible (replace hb5 := nb_nf hb5) | with_reducible (replace hb5 := nb_tf hb5) | with_reducible (replace hb5 := nb_bf hb5) | skip
      refine S_off rfl rfl ?_
      refine S_val (Y_pickF rfl rfl) ?_
      refine S_val (Y_move rfl) ?_
      refine S_off rfl rfl ?_
      refine S_off rfl rfl ?_
      refine S_off rfl rfl ?_
      refine S_val (Y_pickF rfl rfl) ?_
      refine S_val (Y_assign rfl) ?_
      refine S_nl rfl rfl ?_
      refine th_n (hK12 _ _ ?_)
      clear hK12 K12
      refine wp_ret ?_
      refine ib_r ?_
      refine th_r ?_
      clear hK4 K4
      refine ret_r1 rfl rfl ?_  -- r9
      exact ⟨by first | exact cvB_f (by unfold cvP; dsimp only; omega) | exact cvB_d (by unfold cvP; dsimp only; omega) | exact cvB_t (by unfold cvP; dsimp only; omega), G⟩
    · -- c4F
     replace hb4 := nb_tf hb4
     refine wp_seq_k fun K13 hK13 => ?_
     refine Sb 75 rfl ?_  -- 11
     refine S_val (Y_eql rfl rfl) ?_
     refine S_val (Y_assign rfl) ?_
     refine S_nl rfl rfl ?_
     refine th_n (hK13 _ _ ?_)
     clear hK13 K13
     refine S_if rfl (fun hb5 => ?_) (fun hb5 => ?_)  -- c5
     · -- c5T
      replace hb5 := nb_tt hb5
      refine wp_seq_k fun K14 hK14 => ?_
      refine Sb 75 rfl ?_  -- 12
      refine S_val (Y_move rfl) ?_
      refine S_val (Y_move rfl) ?_
      refine S_g 52 rfl (fun hb6 => ?_) (fun hb6 => ?_)  -- g7
      · -- g7T
       first | with_reducible (replace hb6 := nb_nt hb6) | with_reducible (replace hb6 := nb_tt hb6) | with_reducible (replace hb6 := nb_bt hb6) | skip
       refine S_on rfl rfl ?_
       refine S_val (Y_field Try.underlying24 rfl fz24_2 (by decide) rfl) ?_
       refine S_on rfl rfl ?_
       refine S_val (Y_load Try.underlying3 rfl rfl (B1.at (by rfl))) ?_  -- l8
       refine S_on rfl rfl ?_
       refine S_val (Y_eql rfl rfl) ?_
       refine S_val (Y_pickT rfl rfl) ?_
       refine S_val (Y_move rfl) ?_
       refine S_g 57 rfl (fun hb7 => ?_) (fun hb7 => ?_)  -- g8
       · -- g8T
        first | with_reducible (replace hb7 := nb_nt hb7) | with_reducible (replace hb7 := nb_tt hb7) | with_reducible (replace hb7 := nb_bt hb7) | skip
        refine S_on rfl rfl ?_
        refine S_val (Y_field Try.underlying24 rfl fz24_3 (by decide) rfl) ?_
        refine S_on rfl rfl ?_
        refine S_val (Y_load Try.underlying3 rfl rfl (B1.at (by rfl))) ?_  -- l9
        refine S_on rfl rfl ?_
        refine S_val (Y_eql rfl rfl) ?_
        refine S_val (Y_pickT rfl rfl) ?_
        refine S_val (Y_assign rfl) ?_
        refine S_nl rfl rfl ?_
        refine th_n (hK14 _ _ ?_)
        clear hK14 K14
        refine wp_ret ?_
        refine ib_r ?_
        refine th_r ?_
        clear hK4 K4
        refine ret_r1 rfl rfl ?_  -- r10
        exact ⟨by first | exact cvB_f (by unfold cvP; dsimp only; omega) | exact cvB_d (by unfold cvP; dsimp only; omega) | exact cvB_t (by unfold cvP; dsimp only; omega), G⟩
       · -- g8F
        first | with_reducible (replace hb7 := nb_nf hb7) | with_reducible (replace hb7 := nb_tf hb7) | with_reducible (replace hb7 := nb_bf hb7) | skip
        refine S_off rfl rfl ?_
        refine S_off rfl rfl ?_
        refine S_off rfl rfl ?_
        refine S_val (Y_pickF rfl rfl) ?_
        refine S_val (Y_assign rfl) ?_
        refine S_nl rfl rfl ?_
        refine th_n (hK14 _ _ ?_)
        clear hK14 K14
        refine wp_ret ?_
        refine ib_r ?_
        refine th_r ?_
        clear hK4 K4
        refine ret_r1 rfl rfl ?_  -- r11
        exact ⟨by first | exact cvB_f (by unfold cvP; dsimp only; omega) | exact cvB_d (by unfold cvP; dsimp only; omega) | exact cvB_t (by unfold cvP; dsimp only; omega), G⟩
      · -- g7F
       first | with_reducible (replace hb6 := nb_nf hb6) | with_reducible (replace hb6 := nb_tf hb6) | with_reducible (replace hb6 := nb_bf hb6) | skip
       refine S_off rfl rfl ?_
       refine S_off rfl rfl ?_
       refine S_off rfl rfl ?_
       refine S_val (Y_pickF rfl rfl) ?_
       refine S_val (Y_move rfl) ?_
       refine S_off rfl rfl ?_
       refine S_off rfl rfl ?_
       refine S_off rfl rfl ?_
       refine S_val (Y_pickF rfl rfl) ?_
       refine S_val (Y_assign rfl) ?_
       refine S_nl rfl rfl ?_
       refine th_n (hK14 _ _ ?_)
       clear hK14 K14
       refine wp_ret ?_
       refine ib_r ?_
       refine th_r ?_
       clear hK4 K4
       refine ret_r1 rfl rfl ?_  -- r12
       exact ⟨by first | exact cvB_f (by unfold cvP; dsimp only; omega) | exact cvB_d (by unfold cvP; dsimp only; omega) | exact cvB_t (by unfold cvP; dsimp only; omega), G⟩
     · -- c5F
      replace hb5 := nb_tf hb5
      refine wp_seq_k fun K15 hK15 => ?_
      refine Sb 75 rfl ?_  -- 13
      refine S_val (Y_eql rfl rfl) ?_
      refine S_val (Y_assign rfl) ?_
      refine S_nl rfl rfl ?_
      refine th_n (hK15 _ _ ?_)
      clear hK15 K15
      refine S_if rfl (fun hb6 => ?_) (fun hb6 => ?_)  -- c6
      · -- c6T
       replace hb6 := nb_tt hb6
       refine wp_seq_k fun K16 hK16 => ?_
       refine Sb 75 rfl ?_  -- 14
       refine S_val (Y_move rfl) ?_
       refine S_val (Y_move rfl) ?_
       refine S_g 65 rfl (fun hb7 => ?_) (fun hb7 => ?_)  -- g9
       · -- g9T
        first | with_reducible (replace hb7 := nb_nt hb7) | with_reducible (replace hb7 := nb_tt hb7) | with_reducible (replace hb7 := nb_bt hb7) | skip
        refine S_on rfl rfl ?_
        refine S_val (Y_field Try.underlying24 rfl fz24_2 (by decide) rfl) ?_
        refine S_on rfl rfl ?_
        refine S_val (Y_load Try.underlying3 rfl rfl (B1.at (by rfl))) ?_  -- l10
        refine S_on rfl rfl ?_
        refine S_call rfl en61 (spec_l1In_c _ _ _ _) ?_  -- k6 spec.l1In
        rintro v w' ⟨rfl, rfl⟩
        refine S_val (Y_pickT rfl rfl) ?_
        refine S_val (Y_move rfl) ?_
        refine S_g 70 rfl (fun hb8 => ?_) (fun hb8 => ?_)  -- g10
        · -- g10T
         first | with_reducible (replace hb8 := nb_nt hb8) | with_reducible (replace hb8 := nb_tt hb8) | with_reducible (replace hb8 := nb_bt hb8) | skip
         refine S_on rfl rfl ?_
         refine S_val (Y_field Try.underlying24 rfl fz24_3 (by decide) rfl) ?_
         refine S_on rfl rfl ?_
         refine S_val (Y_load Try.underlying3 rfl rfl (B1.at (by rfl))) ?_  -- l11
         refine S_on rfl rfl ?_
         refine S_val (Y_eql rfl rfl) ?_
         refine S_val (Y_pickT rfl rfl) ?_
         refine S_val (Y_assign rfl) ?_
         refine S_nl rfl rfl ?_
         refine th_n (hK16 _ _ ?_)
         clear hK16 K16
         refine wp_ret ?_
         refine ib_r ?_
         refine th_r ?_
         clear hK4 K4
         refine ret_r1 rfl rfl ?_  -- r13
         exact ⟨by first | exact cvB_f (by unfold cvP; dsimp only; omega) | exact cvB_d (by unfold cvP; dsimp only; omega) | exact cvB_t (by unfold cvP; dsimp only; omega), G⟩
        · -- g10F
         first | with_reducible (replace hb8 := nb_nf hb8) | with_reducible (replace hb8 := nb_tf hb8) | with_reducible (replace hb8 := nb_bf hb8) | skip
         refine S_off rfl rfl ?_
         refine S_off rfl rfl ?_
         refine S_off rfl rfl ?_
         refine S_val (Y_pickF rfl rfl) ?_
         refine S_val (Y_assign rfl) ?_
         refine S_nl rfl rfl ?_
         refine th_n (hK16 _ _ ?_)
         clear hK16 K16
         refine wp_ret ?_
         refine ib_r ?_
         refine th_r ?_
         clear hK4 K4
         refine ret_r1 rfl rfl ?_  -- r14
         exact ⟨by first | exact cvB_f (by unfold cvP; dsimp only; omega) | exact cvB_d (by unfold cvP; dsimp only; omega) | exact cvB_t (by unfold cvP; dsimp only; omega), G⟩
       · -- g9F
        first | with_reducible (replace hb7 := nb_nf hb7) | with_reducible (replace hb7 := nb_tf hb7) | with_reducible (replace hb7 := nb_bf hb7) | skip
        refine S_off rfl rfl ?_
        refine S_off rfl rfl ?_
        refine S_off rfl rfl ?_
        refine S_val (Y_pickF rfl rfl) ?_
        refine S_val (Y_move rfl) ?_
        refine S_off rfl rfl ?_
        refine S_off rfl rfl ?_
        refine S_off rfl rfl ?_
        refine S_val (Y_pickF rfl rfl) ?_
        refine S_val (Y_assign rfl) ?_
        refine S_nl rfl rfl ?_
        refine th_n (hK16 _ _ ?_)
        clear hK16 K16
        refine wp_ret ?_
        refine ib_r ?_
        refine th_r ?_
        clear hK4 K4
        refine ret_r1 rfl rfl ?_  -- r15
        exact ⟨by first | exact cvB_f (by unfold cvP; dsimp only; omega) | exact cvB_d (by unfold cvP; dsimp only; omega) | exact cvB_t (by unfold cvP; dsimp only; omega), G⟩
      · -- c6F
       replace hb6 := nb_tf hb6
       refine wp_skip ?_
       refine ib_n ?_
       refine th_n (hK4 _ _ ?_)
       clear hK4 K4
       refine wp_seq_k fun K17 hK17 => ?_
       refine Sb 75 rfl ?_  -- 15
       refine S_val (Y_assign rfl) ?_
       refine S_nl rfl rfl ?_
       refine th_n (hK17 _ _ ?_)
       clear hK17 K17
       refine wp_ret ?_
       refine ret_r1 rfl rfl ?_  -- r16
       exact ⟨by first | exact cvB_f (by unfold cvP; dsimp only; omega) | exact cvB_d (by unfold cvP; dsimp only; omega) | exact cvB_t (by unfold cvP; dsimp only; omega), G⟩
  · -- c2F
   replace hb2 := nb_tf hb2
   refine Sb 75 rfl ?_  -- 7
   refine S_val (Y_eql rfl rfl) ?_
   refine S_val (Y_assign rfl) ?_
   refine S_nl rfl rfl ?_
   refine th_n (hK8 _ _ ?_)
   clear hK8 K8
   refine S_if rfl (fun hb3 => ?_) (fun hb3 => ?_)  -- c7
   · -- c7T
    replace hb3 := nb_tt hb3
    refine wp_seq_k fun K18 hK18 => ?_
    refine Sb 75 rfl ?_  -- 8
    refine S_val (Y_move rfl) ?_
    refine S_val (Y_move rfl) ?_
    refine S_g 30 rfl (fun hb4 => ?_) (fun hb4 => ?_)  -- g11
    · -- g11T
     first | with_reducible (replace hb4 := nb_nt hb4) | with_reducible (replace hb4 := nb_tt hb4) | with_reducible (replace hb4 := nb_bt hb4) | skip
     refine S_on rfl rfl ?_
     refine S_val (Y_move rfl) ?_
     refine S_val (Y_pickT rfl rfl) ?_
     refine S_val (Y_move rfl) ?_
     refine S_g 33 rfl (fun hb5 => ?_) (fun hb5 => ?_)  -- g12
     · -- g12T
      first | with_reducible (replace hb5 := nb_nt hb5) | with_reducible (replace hb5 := nb_tt hb5) | with_reducible (replace hb5 := nb_bt hb5) | skip
      refine S_on rfl rfl ?_
      refine S_val (Y_field Try.underlying24 rfl fz24_3 (by decide) rfl) ?_
      refine S_on rfl rfl ?_
      refine S_val (Y_load Try.underlying3 rfl rfl (B1.at (by rfl))) ?_  -- l12
      refine S_on rfl rfl ?_
      refine S_call rfl en61 (spec_l1In_c _ _ _ _) ?_  -- k7 spec.l1In
      rintro v w' ⟨rfl, rfl⟩
      refine S_val (Y_pickT rfl rfl) ?_
      refine S_val (Y_assign rfl) ?_
      refine S_nl rfl rfl ?_
      refine th_n (hK18 _ _ ?_)
      clear hK18 K18
      refine wp_ret ?_
      refine ib_r ?_
      refine th_r ?_
      clear hK4 K4
      refine ret_r1 rfl rfl ?_  -- r17
      exact ⟨by first | exact cvB_f (by unfold cvP; dsimp only; omega) | exact cvB_d (by unfold cvP; dsimp only; omega) | exact cvB_t (by unfold cvP; dsimp only; omega), G⟩
     · -- g12F
      first | with_reducible (replace hb5 := nb_nf hb5) | with_reducible (replace hb5 := nb_tf hb5) | with_reducible (replace hb5 := nb_bf hb5) | skip
      refine S_off rfl rfl ?_
      refine S_off rfl rfl ?_
      refine S_off rfl rfl ?_
      refine S_val (Y_pickF rfl rfl) ?_
      refine S_val (Y_assign rfl) ?_
      refine S_nl rfl rfl ?_
      refine th_n (hK18 _ _ ?_)
      clear hK18 K18
      refine wp_ret ?_
      refine ib_r ?_
      refine th_r ?_
      clear hK4 K4
      refine ret_r1 rfl rfl ?_  -- r18
      exact ⟨by first | exact cvB_f (by unfold cvP; dsimp only; omega) | exact cvB_d (by unfold cvP; dsimp only; omega) | exact cvB_t (by unfold cvP; dsimp only; omega), G⟩
    · -- g11F
     first | with_reducible (replace hb4 := nb_nf hb4) | with_reducible (replace hb4 := nb_tf hb4) | with_reducible (replace hb4 := nb_bf hb4) | skip
     refine S_off rfl rfl ?_
     refine S_val (Y_pickF rfl rfl) ?_
     refine S_val (Y_move rfl) ?_
     refine S_off rfl rfl ?_
     refine S_off rfl rfl ?_
     refine S_off rfl rfl ?_
     refine S_val (Y_pickF rfl rfl) ?_
     refine S_val (Y_assign rfl) ?_
     refine S_nl rfl rfl ?_
     refine th_n (hK18 _ _ ?_)
     clear hK18 K18
     refine wp_ret ?_
     refine ib_r ?_
     refine th_r ?_
     clear hK4 K4
     refine ret_r1 rfl rfl ?_  -- r19
     exact ⟨by first | exact cvB_f (by unfold cvP; dsimp only; omega) | exact cvB_d (by unfold cvP; dsimp only; omega) | exact cvB_t (by unfold cvP; dsimp only; omega), G⟩
   · -- c7F
    replace hb3 := nb_tf hb3
    refine wp_seq_k fun K19 hK19 => ?_
    refine Sb 75 rfl ?_  -- 9
    refine S_val (Y_eql rfl rfl) ?_
    refine S_val (Y_assign rfl) ?_
    refine S_nl rfl rfl ?_
    refine th_n (hK19 _ _ ?_)
    clear hK19 K19
    refine S_if rfl (fun hb4 => ?_) (fun hb4 => ?_)  -- c8
    · -- c8T
     replace hb4 := nb_tt hb4
     refine wp_seq_k fun K20 hK20 => ?_
     refine Sb 75 rfl ?_  -- 10
     refine S_val (Y_move rfl) ?_
     refine S_val (Y_move rfl) ?_
     refine S_g 41 rfl (fun hb5 => ?_) (fun hb5 => ?_)  -- g13
     · -- g13T
      first | with_reducible (replace hb5 := nb_nt hb5) | with_reducible (replace hb5 := nb_tt hb5) | with_reducible (replace hb5 := nb_bt hb5) | skip
      refine S_on rfl rfl ?_
      refine S_val (Y_move rfl) ?_
      refine S_val (Y_pickT rfl rfl) ?_
      refine S_val (Y_move rfl) ?_
      refine S_g 44 rfl (fun hb6 => ?_) (fun hb6 => ?_)  -- g14
      · -- g14T
       first | with_reducible (replace hb6 := nb_nt hb6) | with_reducible (replace hb6 := nb_tt hb6) | with_reducible (replace hb6 := nb_bt hb6) | skip
       refine S_on rfl rfl ?_
       refine S_val (Y_field Try.underlying24 rfl fz24_3 (by decide) rfl) ?_
       refine S_on rfl rfl ?_
       refine S_val (Y_load Try.underlying3 rfl rfl (B1.at (by rfl))) ?_  -- l13
       refine S_on rfl rfl ?_
       refine S_val (Y_eql rfl rfl) ?_
       refine S_val (Y_pickT rfl rfl) ?_
       refine S_val (Y_assign rfl) ?_
       refine S_nl rfl rfl ?_
       refine th_n (hK20 _ _ ?_)
       clear hK20 K20
       refine wp_ret ?_
       refine ib_r ?_
       refine th_r ?_
       clear hK4 K4
       refine ret_r1 rfl rfl ?_  -- r20
       exact ⟨by first | exact cvB_f (by unfold cvP; dsimp only; omega) | exact cvB_d (by unfold cvP; dsimp only; omega) | exact cvB_t (by unfold cvP; dsimp only; omega), G⟩
      · -- g14F
       first | with_reducible (replace hb6 := nb_nf hb6) | with_reducible (replace hb6 := nb_tf hb6) | with_reducible (replace hb6 := nb_bf hb6) | skip
       refine S_off rfl rfl ?_
       refine S_off rfl rfl ?_
       refine S_off rfl rfl ?_
       refine S_val (Y_pickF rfl rfl) ?_
       refine S_val (Y_assign rfl) ?_
       refine S_nl rfl rfl ?_
       refine th_n (hK20 _ _ ?_)
       clear hK20 K20
       refine wp_ret ?_
       refine ib_r ?_
       refine th_r ?_
       clear hK4 K4
       refine ret_r1 rfl rfl ?_  -- r21
       exact ⟨by first | exact cvB_f (by unfold cvP; dsimp only; omega) | exact cvB_d (by unfold cvP; dsimp only; omega) | exact cvB_t (by unfold cvP; dsimp only; omega), G⟩
     · -- g13F
      first | with_reducible (replace hb5 := nb_nf hb5) | with_reducible (replace hb5 := nb_tf hb5) | with_reducible (replace hb5 := nb_bf hb5) | skip
      refine S_off rfl rfl ?_
      refine S_val (Y_pickF rfl rfl) ?_
      refine S_val (Y_move rfl) ?_
      refine S_off rfl rfl ?_
      refine S_off rfl rfl ?_
      refine S_off rfl rfl ?_
      refine S_val (Y_pickF rfl rfl) ?_
      refine S_val (Y_assign rfl) ?_
      refine S_nl rfl rfl ?_
      refine th_n (hK20 _ _ ?_)
      clear hK20 K20
      refine wp_ret ?_
      refine ib_r ?_
      refine th_r ?_
      clear hK4 K4
      refine ret_r1 rfl rfl ?_  -- r22
      exact ⟨by first | exact cvB_f (by unfold cvP; dsimp only; omega) | exact cvB_d (by unfold cvP; dsimp only; omega) | exact cvB_t (by unfold cvP; dsimp only; omega), G⟩
    · -- c8F
     replace hb4 := nb_tf hb4
     refine wp_seq_k fun K21 hK21 => ?_
     refine Sb 75 rfl ?_  -- 11
     refine S_val (Y_eql rfl rfl) ?_
     refine S_val (Y_assign rfl) ?_
     refine S_nl rfl rfl ?_
     refine th_n (hK21 _ _ ?_)
     clear hK21 K21
     refine S_if rfl (fun hb5 => ?_) (fun hb5 => ?_)  -- c9
     · -- c9T
      replace hb5 := nb_tt hb5
      refine wp_seq_k fun K22 hK22 => ?_
      refine Sb 75 rfl ?_  -- 12
      refine S_val (Y_move rfl) ?_
      refine S_val (Y_move rfl) ?_
      refine S_g 52 rfl (fun hb6 => ?_) (fun hb6 => ?_)  -- g15
      · -- g15T
       first | with_reducible (replace hb6 := nb_nt hb6) | with_reducible (replace hb6 := nb_tt hb6) | with_reducible (replace hb6 := nb_bt hb6) | skip
       refine S_on rfl rfl ?_
       refine S_val (Y_field Try.underlying24 rfl fz24_2 (by decide) rfl) ?_
       refine S_on rfl rfl ?_
       refine S_val (Y_load Try.underlying3 rfl rfl (B1.at (by rfl))) ?_  -- l14
       refine S_on rfl rfl ?_
       refine S_val (Y_eql rfl rfl) ?_
       refine S_val (Y_pickT rfl rfl) ?_
       refine S_val (Y_move rfl) ?_
       refine S_g 57 rfl (fun hb7 => ?_) (fun hb7 => ?_)  -- g16
       · -- g16T
        first | with_reducible (replace hb7 := nb_nt hb7) | with_reducible (replace hb7 := nb_tt hb7) | with_reducible (replace hb7 := nb_bt hb7) | skip
        refine S_on rfl rfl ?_
        refine S_val (Y_field Try.underlying24 rfl fz24_3 (by decide) rfl) ?_
        refine S_on rfl rfl ?_
        refine S_val (Y_load Try.underlying3 rfl rfl (B1.at (by rfl))) ?_  -- l15
        refine S_on rfl rfl ?_
        refine S_val (Y_eql rfl rfl) ?_
        refine S_val (Y_pickT rfl rfl) ?_
        refine S_val (Y_assign rfl) ?_
        refine S_nl rfl rfl ?_
        refine th_n (hK22 _ _ ?_)
        clear hK22 K22
        refine wp_ret ?_
        refine ib_r ?_
        refine th_r ?_
        clear hK4 K4
        refine ret_r1 rfl rfl ?_  -- r23
        exact ⟨by first | exact cvB_f (by unfold cvP; dsimp only; omega) | exact cvB_d (by unfold cvP; dsimp only; omega) | exact cvB_t (by unfold cvP; dsimp only; omega), G⟩
       · -- g16F
        first | with_reducible (replace hb7 := nb_nf hb7) | with_reducible (replace hb7 := nb_tf hb7) | with_reducible (replace hb7 := nb_bf hb7) | skip
        refine S_off rfl rfl ?_
        refine S_off rfl rfl ?_
        refine S_off rfl rfl ?_
        refine S_val (Y_pickF rfl rfl) ?_
        refine S_val (Y_assign rfl) ?_
        refine S_nl rfl rfl ?_
        refine th_n (hK22 _ _ ?_)
        clear hK22 K22
        refine wp_ret ?_
        refine ib_r ?_
        refine th_r ?_
        clear hK4 K4
        refine ret_r1 rfl rfl ?_  -- r24
        exact ⟨by first | exact cvB_f (by unfold cvP; dsimp only; omega) | exact cvB_d (by unfold cvP; dsimp only; omega) | exact cvB_t (by unfold cvP; dsimp only; omega), G⟩
      · -- g15F
       first | with_reducible (replace hb6 := nb_nf hb6) | with_reducible (replace hb6 := nb_tf hb6) | with_reducible (replace hb6 := nb_bf hb6) | skip
       refine S_off rfl rfl ?_
       refine S_off rfl rfl ?_
       refine S_off rfl rfl ?_
       refine S_val (Y_pickF rfl rfl) ?_
       refine S_val (Y_move rfl) ?_
       refine S_off rfl rfl ?_
       refine S_off rfl rfl ?_
       refine S_off rfl rfl ?_
       refine S_val (Y_pickF rfl rfl) ?_
       refine S_val (Y_assign rfl) ?_
       refine S_nl rfl rfl ?_
       refine th_n (hK22 _ _ ?_)
       clear hK22 K22
       refine wp_ret ?_
       refine ib_r ?_
       refine th_r ?_
       clear hK4 K4
       refine ret_r1 rfl rfl ?_  -- r25
       exact ⟨by first | exact cvB_f (by unfold cvP; dsimp only; omega) | exact cvB_d (by unfold cvP; dsimp only; omega) | exact cvB_t (by unfold cvP; dsimp only; omega), G⟩
     · -- c9F
      replace hb5 := nb_tf hb5
      refine wp_seq_k fun K23 hK23 => ?_
      refine Sb 75 rfl ?_  -- 13
      refine S_val (Y_eql rfl rfl) ?_
      refine S_val (Y_assign rfl) ?_
      refine S_nl rfl rfl ?_
      refine th_n (hK23 _ _ ?_)
      clear hK23 K23
      refine S_if rfl (fun hb6 => ?_) (fun hb6 => ?_)  -- c10
      · -- c10T
       replace hb6 := nb_tt hb6
       refine wp_seq_k fun K24 hK24 => ?_
       refine Sb 75 rfl ?_  -- 14
       refine S_val (Y_move rfl) ?_
       refine S_val (Y_move rfl) ?_
       refine S_g 65 rfl (fun hb7 => ?_) (fun hb7 => ?_)  -- g17
       · -- g17T
        first | with_reducible (replace hb7 := nb_nt hb7) | with_reducible (replace hb7 := nb_tt hb7) | with_reducible (replace hb7 := nb_bt hb7) | skip
        refine S_on rfl rfl ?_
        refine S_val (Y_field Try.underlying24 rfl fz24_2 (by decide) rfl) ?_
        refine S_on rfl rfl ?_
        refine S_val (Y_load Try.underlying3 rfl rfl (B1.at (by rfl))) ?_  -- l16
        refine S_on rfl rfl ?_
        refine S_call rfl en61 (spec_l1In_c _ _ _ _) ?_  -- k8 spec.l1In
        rintro v w' ⟨rfl, rfl⟩
        refine S_val (Y_pickT rfl rfl) ?_
        refine S_val (Y_move rfl) ?_
        refine S_g 70 rfl (fun hb8 => ?_) (fun hb8 => ?_)  -- g18
        · -- g18T
         first | with_reducible (replace hb8 := nb_nt hb8) | with_reducible (replace hb8 := nb_tt hb8) | with_reducible (replace hb8 := nb_bt hb8) | skip
         refine S_on rfl rfl ?_
         refine S_val (Y_field Try.underlying24 rfl fz24_3 (by decide) rfl) ?_
         refine S_on rfl rfl ?_
         refine S_val (Y_load Try.underlying3 rfl rfl (B1.at (by rfl))) ?_  -- l17
         refine S_on rfl rfl ?_
         refine S_val (Y_eql rfl rfl) ?_
         refine S_val (Y_pickT rfl rfl) ?_
         refine S_val (Y_assign rfl) ?_
         refine S_nl rfl rfl ?_
         refine th_n (hK24 _ _ ?_)
         clear hK24 K24
         refine wp_ret ?_
         refine ib_r ?_
         refine th_r ?_
         clear hK4 K4
         refine ret_r1 rfl rfl ?_  -- r26
         exact ⟨by first | exact cvB_f (by unfold cvP; dsimp only; omega) | exact cvB_d (by unfold cvP; dsimp only; omega) | exact cvB_t (by unfold cvP; dsimp only; omega), G⟩
        · -- g18F
         first | with_reducible (replace hb8 := nb_nf hb8) | with_reducible (replace hb8 := nb_tf hb8) | with_reducible (replace hb8 := nb_bf hb8) | skip
         refine S_off rfl rfl ?_
         refine S_off rfl rfl ?_
         refine S_off rfl rfl ?_
         refine S_val (Y_pickF rfl rfl) ?_
         refine S_val (Y_assign rfl) ?_
         refine S_nl rfl rfl ?_
         refine th_n (hK24 _ _ ?_)
         clear hK24 K24
         refine wp_ret ?_
         refine ib_r ?_
         refine th_r ?_
         clear hK4 K4
         refine ret_r1 rfl rfl ?_  -- r27
         exact ⟨by first | exact cvB_f (by unfold cvP; dsimp only; omega) | exact cvB_d (by unfold cvP; dsimp only; omega) | exact cvB_t (by unfold cvP; dsimp only; omega), G⟩
       · -- g17F
        first | with_reducible (replace hb7 := nb_nf hb7) | with_reducible (replace hb7 := nb_tf hb7) | with_reducible (replace hb7 := nb_bf hb7) | skip
        refine S_off rfl rfl ?_
        refine S_off rfl rfl ?_
        refine S_off rfl rfl ?_
        refine S_val (Y_pickF rfl rfl) ?_
        refine S_val (Y_move rfl) ?_
        refine S_off rfl rfl ?_
        refine S_off rfl rfl ?_
        refine S_off rfl rfl ?_
        refine S_val (Y_pickF rfl rfl) ?_
        refine S_val (Y_assign rfl) ?_
        refine S_nl rfl rfl ?_
        refine th_n (hK24 _ _ ?_)
        clear hK24 K24
        refine wp_ret ?_
        refine ib_r ?_
        refine th_r ?_
        clear hK4 K4
        refine ret_r1 rfl rfl ?_  -- r28
        exact ⟨by first | exact cvB_f (by unfold cvP; dsimp only; omega) | exact cvB_d (by unfold cvP; dsimp only; omega) | exact cvB_t (by unfold cvP; dsimp only; omega), G⟩
      · -- c10F
       replace hb6 := nb_tf hb6
       refine wp_skip ?_
       refine ib_n ?_
       refine th_n (hK4 _ _ ?_)
       clear hK4 K4
       refine wp_seq_k fun K25 hK25 => ?_
       refine Sb 75 rfl ?_  -- 15
       refine S_val (Y_assign rfl) ?_
       refine S_nl rfl rfl ?_
       refine th_n (hK25 _ _ ?_)
       clear hK25 K25
       refine wp_ret ?_
       refine ret_r1 rfl rfl ?_  -- r29
       exact ⟨by first | exact cvB_f (by unfold cvP; dsimp only; omega) | exact cvB_d (by unfold cvP; dsimp only; omega) | exact cvB_t (by unfold cvP; dsimp only; omega), G⟩
theorem csB_bad {l : List LCmd} {k : Nat} (hk : k < l.length) (h : cvB l[k] = false) : Value.bool false = .bool (csB l) := by
  have := all_false hk h
  simp [csB, this]
theorem csB_ok {l : List LCmd} (h : l.all cvB = true) : Value.bool (decide (l.length ≤ 40)) = .bool (csB l) := by
  unfold csB
  rw [h]
  simp
set_option maxHeartbeats 400000 in
set_option maxRecDepth 20000 in
theorem spec_CommandsValid_c (Pr : Nat → Prop) (A : Option Addr) (xs : List LCmd) (c : Nat) (w : World) (hA : RO Pr w A xs) (hx : xs.length ≤ 1048576) :
    Calls Try.prog 21 #[.slice A xs.length c] w (Ret fun v w' => v = .bool (csB xs) ∧ Grow w w') := by
 refine enter Try.func21 rfl Try.ntmps21 (L := [_,_,_,_,_,_,_,_,_,_,_,_,_,_,_,_,_,_,_]) rfl ?_
 have G := Mod.refl No w
 have hA0 := hA
 refine wp_seq_k fun K1 hK1 => ?_
 refine Sb 19 rfl ?_  -- 0
 refine S_val (Y_assign rfl) ?_
 refine S_nl rfl rfl ?_
 refine th_n (hK1 _ _ ?_)
 clear hK1 K1
 refine wp_seq_k fun K2 hK2 => ?_
 refine wp_seq_k fun K3 hK3 => ?_
 refine Sb 19 rfl ?_  -- 1
 refine S_val (Y_assign rfl) ?_
 refine S_nl rfl rfl ?_
 refine th_n (hK3 _ _ ?_)
 clear hK3 K3
 refine wp_block ?_
 go_loopw [3] (fun u3 wr => (∃ k : Nat, u3 = .int .i64 k ∧ k ≤ xs.length ∧ (xs.take k).all cvB = true) ∧ Mod No w wr) (fun u3 wr => xs.length - (intOf u3).toNat)  -- L1
 case atStart =>
  refine ⟨?_, Mod.refl _ _⟩
  exact ⟨0, rfl, by omega, by simp⟩
 case round =>
  obtain ⟨w1, rfl⟩ : ∃ x : World, x = wr := ⟨_, rfl⟩
  obtain ⟨hrel, g1⟩ := hrel
  replace hA := hA.grow g1
  replace G := G.grow g1
  have zg1 := g1.size
  obtain ⟨k, rfl, hk, hs⟩ := hrel
  have GL1 := g1
  refine wp_seq_k fun K4 hK4 => ?_
  refine wp_seq_k fun K5 hK5 => ?_
  refine Sb 19 rfl ?_  -- 2
  refine S_val (Y_move rfl) ?_
  refine S_val (Y_move rfl) ?_
  refine S_val (Y_len Try.underlying29 rfl) ?_
  refine S_val (Y_lss rfl rfl) ?_
  refine S_nl rfl rfl ?_
  refine th_n (hK5 _ _ ?_)
  clear hK5 K5
  refine S_if rfl (fun hb1 => ?_) (fun hb1 => ?_)  -- c1
  · -- c1T
   replace hb1 := nb_tt hb1
   have hk1 : k < xs.length := by omega
   obtain ⟨g2, o2, rfl, hp2, cc20⟩ := hA0.cell hk1
   have cc2 := cc20.grow G
   refine wp_skip ?_
   refine th_n (hK4 _ _ ?_)
   clear hK4 K4
   refine wp_seq_k fun K6 hK6 => ?_
   refine wp_block ?_
   refine wp_seq_k fun K7 hK7 => ?_
   refine Sb 19 rfl ?_  -- 4
   refine S_val (Y_move rfl) ?_
   refine S_val (Y_move rfl) ?_
   refine S_val (Y_index Try.underlying29 sz24 rfl rfl (by first | assumption | omega)) ?_
   refine S_val (Y_loadS Try.underlying24 rfl sz24 rfl (by first | assumption | skip)) ?_  -- l1
   refine S_call rfl en17 (spec_CommandValid_c _ _ _ _ _) ?_  -- k1 spec.CommandValid
   rintro v2 w2 ⟨rfl, g2⟩
   replace hA := hA.grow g2
   replace cc2 := cc2.grow g2
   replace G := G.grow g2
   replace GL1 := GL1.grow g2
   have zg2 := g2.size
   refine S_val (Y_not rfl) ?_
   refine S_nl rfl rfl ?_
   refine th_n (hK7 _ _ ?_)
   clear hK7 K7
   refine S_if rfl (fun hb2 => ?_) (fun hb2 => ?_)  -- c2
   · -- c2T
    first | with_reducible (replace hb2 := nb_nt hb2) | with_reducible (replace hb2 := nb_tt hb2) | with_reducible (replace hb2 := nb_bt hb2) | skip
    refine wp_seq_k fun K8 hK8 => ?_
    refine Sb 19 rfl ?_  -- 5
    refine S_val (Y_assign rfl) ?_
    refine S_nl rfl rfl ?_
    refine th_n (hK8 _ _ ?_)
    clear hK8 K8
    refine wp_ret ?_
    refine ib_r ?_
    refine th_r ?_
    try clear GL1
    refine th_r ?_
    refine ib_r ?_
    refine th_r ?_
    clear hK6 K6 hK2 K2
    refine ret_r1 rfl rfl ?_  -- r1
    exact ⟨csB_bad hk1 hb2, G⟩
   · -- c2F
    first | with_reducible (replace hb2 := nb_nf hb2) | with_reducible (replace hb2 := nb_tf hb2) | with_reducible (replace hb2 := nb_bf hb2) | skip
    refine wp_skip ?_
    refine ib_n ?_
    refine th_n (hK6 _ _ ?_)
    clear hK6 K6
    refine Sb 19 rfl ?_  -- 3
    refine S_val (Y_move rfl) ?_
    refine S_val (Y_inc rfl rfl (by omega)) ?_
    refine S_val (Y_assign rfl) ?_
    refine S_nl rfl rfl ?_
    refine th_n ?_
    go_roundw  -- e1 of L1
    case rel =>
     refine ⟨?_, GL1⟩
     exact ⟨k + 1, rfl, by omega, all_take_succ (by omega) hs hb2⟩
    case measure =>
     exact dec_nat (by omega)
  · -- c1F
   replace hb1 := nb_tf hb1
   refine wp_exit ?_
   refine th_x ?_
   try clear GL1
   refine th_x ?_
   refine ib_e ?_
   refine th_n (hK2 _ _ ?_)
   clear hK4 K4 hK2 K2
   refine wp_seq_k fun K9 hK9 => ?_
   refine Sb 19 rfl ?_  -- 6
   refine S_val (Y_move rfl) ?_
   refine S_val (Y_len Try.underlying29 rfl) ?_
   refine S_val (Y_leq rfl rfl) ?_
   refine S_val (Y_assign rfl) ?_
   refine S_nl rfl rfl ?_
   refine th_n (hK9 _ _ ?_)
   clear hK9 K9
   refine wp_ret ?_
   refine ret_r1 rfl rfl ?_  -- r2
   rw [← csB_ok (all_of_take (by omega) hs)]
   exact ⟨bI (by omega), G⟩
end
/-! WalkW -/
section
open Go Go.RowKit
attribute [local irreducible] wpList wpAnyH Code.wp dOp
set_option maxHeartbeats 400000 in
set_option maxRecDepth 20000 in
theorem spec_l8Place_c (Pr : Nat → Prop) (A B : Option Addr) (h : LH) (c d n : Nat) (r pc : Int) (w : World) (hA : RC Pr w A h.cells) (hB : R1 Pr w B (ints h.roots)) (hz : hsize h ≤ 1048576) (va : Valid h) (hn : n < h.roots.length) (hr : h.roots[n] = r) :
    Calls Try.prog 123 #[.agg #[.slice A h.cells.length c, .slice B h.roots.length d], .int .i64 r, .int .i64 pc] w (Ret fun v w' => v = .bool (placeB h (n : Int) pc) ∧ Grow w w') := by
 have hz1 := hsize_cells h
 have hz2 := hsize_roots h
 refine enter Try.func123 rfl Try.ntmps123 (L := [_,_,_,_,_,_,_,_,_,_,_,_,_,_,_,_,_,_,_,_]) rfl ?_
 have G := Mod.refl No w
 have hA0 := hA
 have hB0 := hB
 refine wp_seq_k fun K1 hK1 => ?_
 refine Sb 20 rfl ?_  -- 0
 refine S_box (cs := [_, _]) rfl rfl ?_
 intro b1 w1 fb1 g1 B1
 have lb1 := B1.lt
 replace hA := hA.grow g1
 replace hB := hB.grow g1
 replace G := G.grow g1
 have zg1 := g1.size
 refine S_val (Y_assign rfl) ?_
 refine S_nl rfl rfl ?_
 refine th_n (hK1 _ _ ?_)
 clear hK1 K1
 refine wp_seq_k fun K2 hK2 => ?_
 refine Sb 20 rfl ?_  -- 1
 refine S_val (Y_move rfl) ?_
 refine S_val (Y_geq rfl rfl) ?_
 refine S_val (Y_move rfl) ?_
 refine S_g 9 rfl (fun hb1 => ?_) (fun hb1 => ?_)  -- g1
 · -- g1T
  replace hb1 := nb_tt hb1
  obtain ⟨m, hm, hmN⟩ := valid_root va hn (by omega)
  obtain ⟨g2, o2, E2, d2, rfl, hp2, cc20, _⟩ := hA0.cell hmN
  have cc2 := cc20.grow G
  have hpl := placeB_pos (c := pc) hn hm hmN
  rw [hr] at hm
  subst hm
  refine S_on rfl rfl ?_
  refine S_val (Y_move rfl) ?_
  refine S_on rfl rfl ?_
  refine S_val (Y_field Try.underlying35 rfl fz35_0 (by decide) rfl) ?_
  refine S_on rfl rfl ?_
  refine S_val (Y_load Try.underlying32 rfl rfl (B1.at (by rfl))) ?_  -- l1
  refine S_on rfl rfl ?_
  refine S_val (Y_move rfl) ?_
  refine S_on rfl rfl ?_
  refine S_val (Y_index Try.underlying32 sz39 rfl rfl (by first | assumption | omega)) ?_
  refine S_on rfl rfl ?_
  refine S_val (Y_field Try.underlying39 rfl fz39_2 (by decide) rfl) ?_
  refine S_on rfl rfl ?_
  refine S_val (Y_load Try.underlying33 rfl rfl (by first | assumption | exact cc2.at (by rfl) | exact B1.at (by rfl))) ?_  -- l2
  refine S_on rfl rfl ?_
  refine S_val (Y_len Try.underlying33 rfl) ?_
  refine S_on rfl rfl ?_
  refine S_val (Y_lss rfl rfl) ?_
  refine S_val (Y_pickT rfl rfl) ?_
  refine S_val (Y_assign rfl) ?_
  refine S_nl rfl rfl ?_
  refine th_n (hK2 _ _ ?_)
  clear hK2 K2
  refine wp_ret ?_
  refine ret_r1 rfl rfl ?_  -- r1
  exact ⟨by rw [hpl], G⟩
 · -- g1F
  replace hb1 := nb_tf hb1
  refine S_off rfl rfl ?_
  refine S_off rfl rfl ?_
  refine S_off rfl rfl ?_
  refine S_off rfl rfl ?_
  refine S_off rfl rfl ?_
  refine S_off rfl rfl ?_
  refine S_off rfl rfl ?_
  refine S_off rfl rfl ?_
  refine S_off rfl rfl ?_
  refine S_val (Y_pickF rfl rfl) ?_
  refine S_val (Y_assign rfl) ?_
  refine S_nl rfl rfl ?_
  refine th_n (hK2 _ _ ?_)
  clear hK2 K2
  refine wp_ret ?_
  refine ret_r1 rfl rfl ?_  -- r2
  exact ⟨by rw [placeB_neg hn (by omega)], G⟩
set_option maxHeartbeats 400000 in
set_option maxRecDepth 20000 in
theorem spec_CommandPossible_c (Pr : Nat → Prop) (A B : Option Addr) (h : LH) (c d : Nat) (oop oa ob oc : Int) (w : World) (hA : RC Pr w A h.cells) (hB : R1 Pr w B (ints h.roots)) (hz : hsize h ≤ 1048576) :
    Calls Try.prog 119 #[.agg #[.slice A h.cells.length c, .slice B h.roots.length d], .agg #[.int .i64 oop, .int .i64 oa, .int .i64 ob, .int .i64 oc]] w (Ret fun v w' => v = .bool (possB h ⟨oop, oa, ob, oc⟩) ∧ Grow w w') := by
 have hz1 := hsize_cells h
 have hz2 := hsize_roots h
 refine enter Try.func119 rfl Try.ntmps119 (L := [_,_,_,_,_,_,_,_,_,_,_,_,_,_,_,_,_,_,_,_,_,_,_,_,_,_,_,_,_,_,_,_,_,_,_,_,_,_,_,_,_,_,_,_,_,_,_,_]) rfl ?_
 have G := Mod.refl No w
 have hA0 := hA
 have hB0 := hB
 refine wp_seq_k fun K1 hK1 => ?_
 refine Sb 48 rfl ?_  -- 0
 refine S_box (cs := [_, _]) rfl rfl ?_
 intro b1 w1 fb1 g1 B1
 have lb1 := B1.lt
 replace hA := hA.grow g1
 replace hB := hB.grow g1
 replace G := G.grow g1
 have zg1 := g1.size
 refine S_box (cs := [_, _, _, _]) rfl rfl ?_
 intro b2 w2 fb2 g2 B2
 have lb2 := B2.lt
 replace hA := hA.grow g2
 replace hB := hB.grow g2
 replace G := G.grow g2
 replace B1 := B1.grow g2
 have zg2 := g2.size
 refine S_val (Y_assign rfl) ?_
 refine S_nl rfl rfl ?_
 refine th_n (hK1 _ _ ?_)
 clear hK1 K1
 refine wp_seq_k fun K2 hK2 => ?_
 refine wp_seq_k fun K3 hK3 => ?_
 refine Sb 48 rfl ?_  -- 1
 refine S_val (Y_loadS Try.underlying35 rfl sz35 rfl (B1.row (by rfl))) ?_  -- l1
 refine S_call rfl en34 (spec_HeapValid_c _ _ _ _ _ _ _ (by assumption) (by assumption) (by omega)) ?_  -- k1 spec.HeapValid
 rintro v3 w3 ⟨rfl, g3⟩
 replace hA := hA.grow g3
 replace hB := hB.grow g3
 replace G := G.grow g3
 replace B1 := B1.grow g3
 replace B2 := B2.grow g3
 have zg3 := g3.size
 refine S_val (Y_not rfl) ?_
 refine S_val (Y_move rfl) ?_
 refine S_g 8 rfl (fun hb1 => ?_) (fun hb1 => ?_)  -- g1
 · -- g1T
  first | with_reducible (replace hb1 := nb_nt hb1) | with_reducible (replace hb1 := nb_tt hb1) | with_reducible (replace hb1 := nb_bt hb1) | skip
  refine S_off rfl rfl ?_
  refine S_off rfl rfl ?_
  refine S_off rfl rfl ?_
  refine S_val (Y_pickT rfl rfl) ?_
  refine S_nl rfl rfl ?_
  refine th_n (hK3 _ _ ?_)
  clear hK3 K3
  refine S_ifT rfl ?_
  refine wp_seq_k fun K4 hK4 => ?_
  refine Sb 48 rfl ?_  -- 2
  refine S_val (Y_assign rfl) ?_
  refine S_nl rfl rfl ?_
  refine th_n (hK4 _ _ ?_)
  clear hK4 K4
  refine wp_ret ?_
  refine th_r ?_
  clear hK2 K2
  refine ret_r1 rfl rfl ?_  -- r1
  exact ⟨by rw [possB_f1 hb1], G⟩
 · -- g1F
  first | with_reducible (replace hb1 := nb_nf hb1) | with_reducible (replace hb1 := nb_tf hb1) | with_reducible (replace hb1 := nb_bf hb1) | skip
  have va := valid_iff.1 hb1
  have hr4 := va.roots4
  refine S_on rfl rfl ?_
  refine S_val (Y_loadS Try.underlying24 rfl sz24 rfl (B2.row (by rfl))) ?_  -- l2
  refine S_on rfl rfl ?_
  refine S_call rfl en17 (spec_CommandValid_c _ _ _ _ _) ?_  -- k2 spec.CommandValid
  rintro v4 w4 ⟨rfl, g4⟩
  replace hA := hA.grow g4
  replace hB := hB.grow g4
  replace G := G.grow g4
  replace B1 := B1.grow g4
  replace B2 := B2.grow g4
  have zg4 := g4.size
  refine S_on rfl rfl ?_
  refine S_val (Y_not rfl) ?_
  refine S_val (Y_pickF rfl rfl) ?_
  refine S_nl rfl rfl ?_
  refine th_n (hK3 _ _ ?_)
  clear hK3 K3
  refine S_if rfl (fun hb2 => ?_) (fun hb2 => ?_)  -- c1
  · -- c1T
   first | with_reducible (replace hb2 := nb_nt hb2) | with_reducible (replace hb2 := nb_tt hb2) | with_reducible (replace hb2 := nb_bt hb2) | skip
   refine wp_seq_k fun K5 hK5 => ?_
   refine Sb 48 rfl ?_  -- 2
   refine S_val (Y_assign rfl) ?_
   refine S_nl rfl rfl ?_
   refine th_n (hK5 _ _ ?_)
   clear hK5 K5
   refine wp_ret ?_
   refine th_r ?_
   clear hK2 K2
   refine ret_r1 rfl rfl ?_  -- r2
   exact ⟨by rw [possB_f2 hb2], G⟩
  · -- c1F
   first | with_reducible (replace hb2 := nb_nf hb2) | with_reducible (replace hb2 := nb_tf hb2) | with_reducible (replace hb2 := nb_bf hb2) | skip
   have hcp := cvB_d0 hb2
   have hcq := hcp
   unfold cvP at hcq
   dsimp only at hcq
   refine wp_skip ?_
   refine th_n (hK2 _ _ ?_)
   clear hK2 K2
   refine wp_seq_k fun K6 hK6 => ?_
   refine wp_seq_k fun K7 hK7 => ?_
   refine Sb 48 rfl ?_  -- 3
   refine S_val (Y_field Try.underlying24 rfl fz24_0 (by decide) rfl) ?_
   refine S_val (Y_load Try.underlying3 rfl rfl (B2.at (by rfl))) ?_  -- l3
   refine S_nl rfl rfl ?_
   refine th_n (hK7 _ _ ?_)
   clear hK7 K7
   refine wp_block ?_
   refine wp_seq_k fun K8 hK8 => ?_
   refine Sb 48 rfl ?_  -- 4
   refine S_val (Y_eql rfl rfl) ?_
   refine S_val (Y_assign rfl) ?_
   refine S_nl rfl rfl ?_
   refine th_n (hK8 _ _ ?_)
   clear hK8 K8
   refine S_if rfl (fun hb3 => ?_) (fun hb3 => ?_)  -- c2
   · -- c2T
    replace hb3 := nb_tt hb3
    obtain ⟨n, hn⟩ := Int.eq_ofNat_of_zero_le (show 0 ≤ ob by omega)
    subst hn
    have hn4 : n < h.roots.length := by omega
    refine wp_seq_k fun K9 hK9 => ?_
    refine D_start 11 48 (fun w => Mod (No) w) follows rfl rfl ?_  -- d1 r5
    intro w5 g5
    replace hA := hA.grow g5
    replace hB := hB.grow g5
    replace G := G.grow g5
    replace B1 := B1.grow g5
    replace B2 := B2.grow g5
    have zg5 := g5.size
    have GS5 := Mod.refl (No) w5
    obtain ⟨g1, o1, e1, hp1, hc1⟩ := hB.int hn4
    cases e1
    have B1d5 := B1
    have B2d5 := B2
    refine Dq (i := 0) rfl GS5 (fun _ hs => Y_loadS Try.underlying35 rfl sz35 rfl (by first | exact hs.cells0 (B1.row (by rfl)))) ?_
    refine Dq (i := 1) rfl GS5 (fun _ _ => Y_field Try.underlying35 rfl fz35_1 (by decide) rfl) ?_
    refine Dq (i := 2) rfl GS5 (fun _ hs => Y_load Try.underlying33 rfl rfl (hs.cell0 (B1.at (by rfl)))) ?_
    refine Dq (i := 3) rfl GS5 (fun _ _ => Y_field Try.underlying24 rfl fz24_2 (by decide) rfl) ?_
    refine Dq (i := 4) rfl GS5 (fun _ hs => Y_load Try.underlying3 rfl rfl (hs.cell0 (B2.at (by rfl)))) ?_
    refine Dq (i := 5) rfl GS5 (fun _ _ => Y_index Try.underlying33 sz3 rfl rfl (by first | assumption | omega)) ?_
    refine Dq (i := 6) rfl GS5 (fun _ hs => Y_load Try.underlying3 rfl rfl (by first | exact hs.cell0 (by assumption) | exact hs.cell0 (B1.at (by rfl)) | exact hs.cell0 (B2.at (by rfl)))) ?_
    refine Dq (i := 7) rfl GS5 (fun _ _ => Y_field Try.underlying24 rfl fz24_3 (by decide) rfl) ?_
    refine Dq (i := 8) rfl GS5 (fun _ hs => Y_load Try.underlying3 rfl rfl (hs.cell0 (B2.at (by rfl)))) ?_
    refine D_1 (i := 9) (by kernel_rfl) ?_
    refine E_call rfl rfl en123 (spec_l8Place_c _ _ _ h _ _ n _ _ _ hA hB (by omega) va hn4 rfl) ?_  -- k3 spec.l8Place
    rintro v6 w6 ⟨rfl, g6⟩
    replace hA := hA.grow g6
    replace hB := hB.grow g6
    replace G := G.grow g6
    replace GS5 := GS5.grow g6
    replace B1 := B1.grow g6
    replace B2 := B2.grow g6
    have zg6 := g6.size
    refine ⟨GS5, ?_⟩
    refine Dq (i := 10) rfl GS5 (fun _ _ => Y_assign rfl) ?_
    refine D_en (by kernel_rfl) rfl rfl ?_
    refine th_n (hK9 _ _ ?_)
    clear hK9 K9
    refine wp_ret ?_
    refine ib_r ?_
    refine th_r ?_
    clear hK6 K6
    refine ret_r1 rfl rfl ?_  -- r3
    exact ⟨by rw [possB_t hb1 hb2]; simp [effectB, hb3], G⟩
   · -- c2F
    replace hb3 := nb_tf hb3
    refine wp_seq_k fun K10 hK10 => ?_
    refine Sb 48 rfl ?_  -- 6
    refine S_val (Y_eql rfl rfl) ?_
    refine S_val (Y_assign rfl) ?_
    refine S_nl rfl rfl ?_
    refine th_n (hK10 _ _ ?_)
    clear hK10 K10
    refine S_if rfl (fun hb4 => ?_) (fun hb4 => ?_)  -- c3
    · -- c3T
     replace hb4 := nb_tt hb4
     obtain ⟨n, hn⟩ := Int.eq_ofNat_of_zero_le (show 0 ≤ oa by omega)
     subst hn
     have hn4 : n < h.roots.length := by omega
     refine wp_seq_k fun K11 hK11 => ?_
     refine D_start 11 48 (fun w => Mod (No) w) follows rfl rfl ?_  -- d2 r7
     intro w7 g7
     replace hA := hA.grow g7
     replace hB := hB.grow g7
     replace G := G.grow g7
     replace B1 := B1.grow g7
     replace B2 := B2.grow g7
     have zg7 := g7.size
     have GS7 := Mod.refl (No) w7
     obtain ⟨g1, o1, e1, hp1, hc1⟩ := hB.int hn4
     cases e1
     have B1d7 := B1
     have B2d7 := B2
     refine Dq (i := 0) rfl GS7 (fun _ hs => Y_loadS Try.underlying35 rfl sz35 rfl (by first | exact hs.cells0 (B1.row (by rfl)))) ?_
     refine Dq (i := 1) rfl GS7 (fun _ _ => Y_field Try.underlying35 rfl fz35_1 (by decide) rfl) ?_
     refine Dq (i := 2) rfl GS7 (fun _ hs => Y_load Try.underlying33 rfl rfl (hs.cell0 (B1.at (by rfl)))) ?_
     refine Dq (i := 3) rfl GS7 (fun _ _ => Y_field Try.underlying24 rfl fz24_1 (by decide) rfl) ?_
     refine Dq (i := 4) rfl GS7 (fun _ hs => Y_load Try.underlying3 rfl rfl (hs.cell0 (B2.at (by rfl)))) ?_
     refine Dq (i := 5) rfl GS7 (fun _ _ => Y_index Try.underlying33 sz3 rfl rfl (by first | assumption | omega)) ?_
     refine Dq (i := 6) rfl GS7 (fun _ hs => Y_load Try.underlying3 rfl rfl (by first | exact hs.cell0 (by assumption) | exact hs.cell0 (B1.at (by rfl)) | exact hs.cell0 (B2.at (by rfl)))) ?_
     refine Dq (i := 7) rfl GS7 (fun _ _ => Y_field Try.underlying24 rfl fz24_3 (by decide) rfl) ?_
     refine Dq (i := 8) rfl GS7 (fun _ hs => Y_load Try.underlying3 rfl rfl (hs.cell0 (B2.at (by rfl)))) ?_
     refine D_1 (i := 9) (by kernel_rfl) ?_
     refine E_call rfl rfl en123 (spec_l8Place_c _ _ _ h _ _ n _ _ _ hA hB (by omega) va hn4 rfl) ?_  -- k4 spec.l8Place
     rintro v8 w8 ⟨rfl, g8⟩
     replace hA := hA.grow g8
     replace hB := hB.grow g8
     replace G := G.grow g8
     replace GS7 := GS7.grow g8
     replace B1 := B1.grow g8
     replace B2 := B2.grow g8
     have zg8 := g8.size
     refine ⟨GS7, ?_⟩
     refine Dq (i := 10) rfl GS7 (fun _ _ => Y_assign rfl) ?_
     refine D_en (by kernel_rfl) rfl rfl ?_
     refine th_n (hK11 _ _ ?_)
     clear hK11 K11
     refine wp_ret ?_
     refine ib_r ?_
     refine th_r ?_
     clear hK6 K6
     refine ret_r1 rfl rfl ?_  -- r4
     exact ⟨by rw [possB_t hb1 hb2]; simp [effectB, hb3, hb4], G⟩
    · -- c3F
     replace hb4 := nb_tf hb4
     refine wp_seq_k fun K12 hK12 => ?_
     refine Sb 48 rfl ?_  -- 8
     refine S_val (Y_eql rfl rfl) ?_
     refine S_val (Y_assign rfl) ?_
     refine S_nl rfl rfl ?_
     refine th_n (hK12 _ _ ?_)
     clear hK12 K12
     refine S_if rfl (fun hb5 => ?_) (fun hb5 => ?_)  -- c4
     · -- c4T
      replace hb5 := nb_tt hb5
      obtain ⟨n, hn⟩ := Int.eq_ofNat_of_zero_le (show 0 ≤ oa by omega)
      subst hn
      have hn4 : n < h.roots.length := by omega
      obtain ⟨g1, o1, e1, hp1, hc1⟩ := hB.int hn4
      cases e1
      refine wp_seq_k fun K13 hK13 => ?_
      refine Sb 48 rfl ?_  -- 9
      refine S_val (Y_field Try.underlying35 rfl fz35_1 (by decide) rfl) ?_
      refine S_val (Y_load Try.underlying33 rfl rfl (B1.at (by rfl))) ?_  -- l14
      refine S_val (Y_field Try.underlying24 rfl fz24_1 (by decide) rfl) ?_
      refine S_val (Y_load Try.underlying3 rfl rfl (B2.at (by rfl))) ?_  -- l15
      refine S_val (Y_index Try.underlying33 sz3 rfl rfl (by first | assumption | omega)) ?_
      refine S_val (Y_load Try.underlying3 rfl rfl (by first | assumption | exact B1.at (by rfl) | exact B2.at (by rfl))) ?_  -- l16
      refine S_val (Y_geq rfl rfl) ?_
      refine S_val (Y_assign rfl) ?_
      refine S_nl rfl rfl ?_
      refine th_n (hK13 _ _ ?_)
      clear hK13 K13
      refine wp_ret ?_
      refine ib_r ?_
      refine th_r ?_
      clear hK6 K6
      refine ret_r1 rfl rfl ?_  -- r5
      exact ⟨by rw [possB_t hb1 hb2]; simp [effectB, hb3, hb4, hb5, rootB_at hn4], G⟩
     · -- c4F
      replace hb5 := nb_tf hb5
      refine wp_skip ?_
      refine ib_n ?_
      refine th_n (hK6 _ _ ?_)
      clear hK6 K6
      refine wp_seq_k fun K14 hK14 => ?_
      refine Sb 48 rfl ?_  -- 10
      refine S_val (Y_assign rfl) ?_
      refine S_nl rfl rfl ?_
      refine th_n (hK14 _ _ ?_)
      clear hK14 K14
      refine wp_ret ?_
      refine ret_r1 rfl rfl ?_  -- r6
      exact ⟨by rw [possB_t hb1 hb2]; simp [effectB, hb3, hb4, hb5], G⟩
end
/-! WalkO -/
section
open Go Go.RowKit
attribute [local irreducible] wpList wpAnyH Code.wp dOp
def emptyH : LH := ⟨[], List.replicate 4 (-1)⟩
theorem OH.bare {Pr : Nat → Prop} {w : World} {eC eI : TypeId} {A B : Option Addr} {xs : List Int} (r : OI Pr w eI B (ints xs)) : OH Pr w eC eI A B ⟨[], xs⟩ [] := ⟨OC.nil _ _ _ _ _, r, fun i c q h => by simp at h⟩
theorem rep_snoc (k : Nat) : List.replicate k (-1 : Int) ++ [-1] = List.replicate (k + 1) (-1) := by simp [List.replicate_succ']
set_option maxHeartbeats 400000 in
set_option maxRecDepth 20000 in
theorem impl_EmptyHeap_c (w : World) :
    Calls Try.prog 51 #[] w (Ret fun v w' => ∃ A1 B1 n1 c1 n2 c2 rs, v = .agg #[.slice A1 n1 c1, .slice B1 n2 c2] ∧ n1 = (emptyH).cells.length ∧ n2 = (emptyH).roots.length ∧ OH (fun i => w.heap.size ≤ i) w' 39 3 A1 B1 (emptyH) rs ∧ Grow w w') := by
 refine enter Try.func51 rfl Try.ntmps51 (L := [_,_,_]) rfl ?_
 have G := Mod.refl No w
 refine wp_seq_k fun K1 hK1 => ?_
 refine Sb 3 rfl ?_  -- 0
 refine S_alloc (cs := [_, _]) zr35 rfl ?_
 intro b1 w1 fb1 g1 B1
 have lb1 := B1.lt
 replace G := G.grow g1
 have zg1 := g1.size
 refine S_nl rfl rfl ?_
 refine th_n (hK1 _ _ ?_)
 clear hK1 K1
 refine wp_seq_k fun K2 hK2 => ?_
 refine Sb 3 rfl ?_  -- 1
 refine S_bsN (cs := [_, _, _, _]) Try.underlying33 zr3 sz3 rfl rfl ?_
 intro b2 w2 fb2 g2 B2
 have lb2 := B2.lt
 replace G := G.grow g2
 replace B1 := B1.grow g2
 have zg2 := g2.size
 refine S_val (Y_build (cs := [_, _]) zr35 pc35 rfl rfl) ?_
 refine S_stM (pre := []) (old := [_, _]) (post := []) (vs := [_, _]) sz35 rfl rfl rfl (by first | rfl | assumption) B1 rfl rfl ?_
 intro w3 m3 X3
 replace B1 := Blk.eq (ys := [_, _]) X3 rfl
 clear X3
 replace G := G.abv m3
 replace B2 := B2.md m3
 have zm3 := m3.size
 refine S_nl rfl rfl ?_
 refine th_n (hK2 _ _ ?_)
 clear hK2 K2
 refine wp_ret ?_
 refine ret_rc (cs := [_, _]) Try.underlying35 rfl sz35 rfl rfl (B1.row (by rfl)) ?_  -- r1
 exact ⟨_, _, _, _, _, _, [], rfl, rfl, rfl, OH.bare (OI.of_blk' B2 (by omega)), G⟩
end
/-! WalkRn -/
section
open Go Go.RowKit
attribute [local irreducible] wpList wpAnyH Code.wp dOp
set_option maxHeartbeats 400000 in
set_option maxRecDepth 20000 in
theorem spec_l7Copy2_c (Pr : Nat → Prop) (A B : Option Addr) (h : LH) (c d : Nat) (w : World) (hA : RC Pr w A h.cells) (hB : R1 Pr w B (ints h.roots)) (hz : hsize h ≤ 1048576) :
    Calls Try.prog 120 #[.agg #[.slice A h.cells.length c, .slice B h.roots.length d]] w (Ret fun v w' => ∃ A1 B1 n1 c1 n2 c2 rs, v = .agg #[.slice A1 n1 c1, .slice B1 n2 c2] ∧ n1 = (h).cells.length ∧ n2 = (h).roots.length ∧ XH (fun i => w.heap.size ≤ i) w' 39 3 A1 B1 (h) rs c1 c2 ∧ Grow w w') := by
 have hz1 := hsize_cells h
 have hz2 := hsize_roots h
 have hne : (39 : TypeId) ≠ 3 := by decide
 have hAl := hA.below
 have hBl := hB.below
 refine enter Try.func120 rfl Try.ntmps120 (L := [_,_,_,_,_,_,_,_,_,_,_,_,_,_,_,_,_,_,_,_,_,_,_,_,_,_,_,_,_,_,_,_,_,_,_,_,_,_,_,_,_,_,_,_]) rfl ?_
 have G := Mod.refl No w
 have hAl0 := hAl
 have hBl0 := hBl
 refine wp_seq_k fun K1 hK1 => ?_
 refine Sb 44 rfl ?_  -- 0
 refine S_box (cs := [_, _]) rfl rfl ?_
 intro b1 w1 fb1 g1 B1
 have lb1 := B1.lt
 replace hAl := hAl.grow g1
 replace hBl := hBl.grow g1
 replace G := G.grow g1
 have zg1 := g1.size
 refine S_alloc (cs := [_, _]) zr35 rfl ?_
 intro b2 w2 fb2 g2 B2
 have lb2 := B2.lt
 replace hAl := hAl.grow g2
 replace hBl := hBl.grow g2
 replace G := G.grow g2
 replace B1 := B1.grow g2
 have zg2 := g2.size
 refine S_nl rfl rfl ?_
 refine th_n (hK1 _ _ ?_)
 clear hK1 K1
 refine wp_seq_k fun K2 hK2 => ?_
 refine Sb 44 rfl ?_  -- 1
 refine S_bs0 Try.underlying33 sz3 ?_
 intro b3 w3 fb3 g3 B3
 have lb3 := B3.lt
 replace hAl := hAl.grow g3
 replace hBl := hBl.grow g3
 replace G := G.grow g3
 replace B1 := B1.grow g3
 replace B2 := B2.grow g3
 have zg3 := g3.size
 refine S_val (Y_field Try.underlying35 rfl fz35_1 (by decide) rfl) ?_
 refine S_val (Y_load Try.underlying33 rfl rfl (B1.at (by rfl))) ?_  -- l1
 have OY : OW (fun i => b2 < i) w3 3 1 (some ⟨b3, 0, none⟩) 0 0 [] := OW.of_blk B3 rfl (by decide) (by omega)
 refine S_app0 (news := ints h.roots) Try.underlying33 zr3 sz3 by3 rfl rfl OY (by rw [ints_len]; omega) (by have hsr := Src.r1 hBl; rw [ints_len] at hsr; exact hsr) ints_one (by omega) (Pr' := fun i => b2 < i) (fun i hi => hi) (by omega) ?_
 intro A4 cap4 w4 X4 m4
 replace OY := X4
 clear X4
 replace G := G.abv m4
 replace hAl := hAl0.grow G
 replace hBl := hBl0.grow G
 replace B1 := B1.md m4
 replace B2 := B2.md m4
 have zm4 := m4.size
 have OX := OY.lt
 obtain ⟨AR, rfl⟩ : ∃ x, x = A4 := ⟨_, rfl⟩
 obtain ⟨capR, rfl⟩ : ∃ x, x = cap4 := ⟨_, rfl⟩
 clear OY
 refine S_val (Y_build (cs := [_, _]) zr35 pc35 rfl rfl) ?_
 refine S_alloc (cs := [_, _]) zr35 rfl ?_
 intro b5 w5 fb5 g5 B5
 have lb5 := B5.lt
 replace hAl := hAl.grow g5
 replace hBl := hBl.grow g5
 replace OX := OX.grow g5
 replace G := G.grow g5
 replace B1 := B1.grow g5
 replace B2 := B2.grow g5
 have zg5 := g5.size
 refine S_stM (pre := []) (old := [_, _]) (post := []) (vs := [_, _]) sz35 rfl rfl rfl (by first | rfl | assumption) B5 rfl rfl ?_
 intro w6 m6 X6
 replace B5 := Blk.eq (ys := [_, _]) X6 rfl
 clear X6
 replace G := G.abv m6
 replace hAl := hAl0.grow G
 replace hBl := hBl0.grow G
 replace OX := OX.md m6
 replace B1 := B1.md m6
 replace B2 := B2.md m6
 have zm6 := m6.size
 refine S_nl rfl rfl ?_
 refine th_n (hK2 _ _ ?_)
 clear hK2 K2
 refine wp_seq_k fun K3 hK3 => ?_
 refine wp_seq_k fun K4 hK4 => ?_
 refine Sb 44 rfl ?_  -- 2
 refine S_val (Y_assign rfl) ?_
 refine S_nl rfl rfl ?_
 refine th_n (hK4 _ _ ?_)
 clear hK4 K4
 refine wp_block ?_
 obtain ⟨wz, hwz⟩ : ∃ x, x = w6.heap.size := ⟨_, rfl⟩
 have OC1 : OW (fun i => wz ≤ i) w6 39 3 none 0 0 (flatC ([] : List LC) []) := OW.nil _ _ _ _
 have OR1 : ORs (fun i => wz ≤ i) w6 3 ([] : List LC) [] := ORs.nil _ _ _
 go_loopw [4] (fun u4 wr => (∃ (k q cap : Nat) (A1 : Option Addr) (rs : List (Option Addr × Nat)), u4 = .int .i64 k ∧ k ≤ h.cells.length ∧ q = k ∧ Blk wr b5 35 [.slice A1 q cap, .slice AR h.roots.length capR].toArray ∧ OW (fun i => wz ≤ i) wr 39 3 A1 q cap (flatC (h.cells.take k) rs) ∧ ORs (fun i => wz ≤ i) wr 3 (h.cells.take k) rs) ∧ Mod (fun i => i = b5 ∨ (wz ≤ i) ∨ wz ≤ i) w6 wr) (fun u4 wr => h.cells.length - (intOf u4).toNat)  -- L1
 case atStart =>
  refine ⟨?_, Mod.refl _ _⟩
  exact ⟨0, 0, _, _, [], rfl, by omega, rfl, B5, OC1, OR1⟩
 case round =>
  obtain ⟨w7, rfl⟩ : ∃ x : World, x = wr := ⟨_, rfl⟩
  obtain ⟨hrel, g7⟩ := hrel
  clear B5
  clear OC1
  clear OR1
  replace G := G.abv g7
  replace hAl := hAl0.grow G
  replace hBl := hBl0.grow G
  replace OX := OX.md g7
  replace B1 := B1.md g7
  replace B2 := B2.md g7
  have zg7 := g7.size
  obtain ⟨k, q1, cap1, A1, rs, rfl, hk, hq1, B5, OC1, OR1⟩ := hrel
  have hlk : (h.cells.take k).length = k := by simp; omega
  have GL7 := g7
  refine wp_seq_k fun K5 hK5 => ?_
  refine wp_seq_k fun K6 hK6 => ?_
  refine Sb 44 rfl ?_  -- 3
  refine S_val (Y_move rfl) ?_
  refine S_val (Y_field Try.underlying35 rfl fz35_0 (by decide) rfl) ?_
  refine S_val (Y_load Try.underlying32 rfl rfl (B1.at (by rfl))) ?_  -- l2
  refine S_val (Y_len Try.underlying32 rfl) ?_
  refine S_val (Y_lss rfl rfl) ?_
  refine S_nl rfl rfl ?_
  refine th_n (hK6 _ _ ?_)
  clear hK6 K6
  refine S_if rfl (fun hb1 => ?_) (fun hb1 => ?_)  -- c1
  · -- c1T
   replace hb1 := nb_tt hb1
   have hk1 : k < h.cells.length := by omega
   obtain ⟨g2, o2, E2, d2, rfl, hp2, cc20, hE20⟩ := hAl0.cell hk1
   have cc2 := cc20.grow G
   have hE2 := hE20.grow G
   have hr1 := hsize_refs h hk1
   replace OC1 := OC1.lt
   replace OR1 := OR1.lt
   refine wp_skip ?_
   refine th_n (hK5 _ _ ?_)
   clear hK5 K5
   refine wp_seq_k fun K7 hK7 => ?_
   refine wp_block ?_
   refine D_start 27 44 (fun w => Mod (fun i => i = b5 ∨ wz ≤ i) w) follows rfl rfl ?_  -- d1 r5
   intro w8 g8
   replace hAl := hAl.grow g8
   replace hBl := hBl.grow g8
   replace cc2 := cc2.grow g8
   replace hE2 := hE2.grow g8
   replace OX := OX.grow g8
   replace OC1 := OC1.grow g8
   replace OR1 := OR1.grow g8
   replace G := G.grow g8
   replace GL7 := GL7.grow g8
   replace B1 := B1.grow g8
   replace B2 := B2.grow g8
   replace B5 := B5.grow g8
   have zg8 := g8.size
   have GS8 := Mod.refl (fun i => i = b5 ∨ wz ≤ i) w8
   refine Dq (i := 0) rfl GS8 (fun _ _ => Y_field Try.underlying35 rfl fz35_0 (by decide) rfl) ?_
   refine Dq (i := 2) rfl GS8 (fun _ _ => Y_field Try.underlying35 rfl fz35_0 (by decide) rfl) ?_
   refine Dq (i := 3) rfl GS8 (fun _ hs => Y_load Try.underlying32 rfl rfl (by first | exact hs.cell (B1.at (by rfl)) (by intro h; first | omega | (dsimp only at h; omega)))) ?_
   refine Dq (i := 4) rfl GS8 (fun _ _ => Y_move rfl) ?_
   refine Dq (i := 5) rfl GS8 (fun _ _ => Y_index Try.underlying32 sz39 rfl rfl (by first | assumption | omega)) ?_
   refine Dq (i := 6) rfl GS8 (fun _ _ => Y_field Try.underlying39 rfl fz39_0 (by decide) rfl) ?_
   refine Dq (i := 7) rfl GS8 (fun _ hs => Y_load Try.underlying4 rfl rfl (by first | exact hs.cell (by assumption) (by intro h; first | omega | (dsimp only at h; omega)) | exact hs.cell (cc2.at (by rfl)) (by intro h; first | omega | (dsimp only at h; omega)) | exact hs.cell (B1.at (by rfl)) (by intro h; first | omega | (dsimp only at h; omega)) | exact hs.cell (B2.at (by rfl)) (by intro h; first | omega | (dsimp only at h; omega)) | exact hs.cell (B5.at (by rfl)) (by intro h; first | omega | (dsimp only at h; omega)))) ?_
   refine Dq (i := 8) rfl GS8 (fun _ _ => Y_field Try.underlying35 rfl fz35_0 (by decide) rfl) ?_
   refine Dq (i := 9) rfl GS8 (fun _ hs => Y_load Try.underlying32 rfl rfl (by first | exact hs.cell (B1.at (by rfl)) (by intro h; first | omega | (dsimp only at h; omega)))) ?_
   refine Dq (i := 10) rfl GS8 (fun _ _ => Y_move rfl) ?_
   refine Dq (i := 11) rfl GS8 (fun _ _ => Y_index Try.underlying32 sz39 rfl rfl (by first | assumption | omega)) ?_
   refine Dq (i := 12) rfl GS8 (fun _ _ => Y_field Try.underlying39 rfl fz39_1 (by decide) rfl) ?_
   refine Dq (i := 13) rfl GS8 (fun _ hs => Y_load Try.underlying3 rfl rfl (by first | exact hs.cell (by assumption) (by intro h; first | omega | (dsimp only at h; omega)) | exact hs.cell (cc2.at (by rfl)) (by intro h; first | omega | (dsimp only at h; omega)) | exact hs.cell (B1.at (by rfl)) (by intro h; first | omega | (dsimp only at h; omega)) | exact hs.cell (B2.at (by rfl)) (by intro h; first | omega | (dsimp only at h; omega)) | exact hs.cell (B5.at (by rfl)) (by intro h; first | omega | (dsimp only at h; omega)))) ?_
   refine Dq (i := 15) rfl GS8 (fun _ _ => Y_field Try.underlying35 rfl fz35_0 (by decide) rfl) ?_
   refine Dq (i := 16) rfl GS8 (fun _ hs => Y_load Try.underlying32 rfl rfl (by first | exact hs.cell (B1.at (by rfl)) (by intro h; first | omega | (dsimp only at h; omega)))) ?_
   refine Dq (i := 17) rfl GS8 (fun _ _ => Y_move rfl) ?_
   refine Dq (i := 18) rfl GS8 (fun _ _ => Y_index Try.underlying32 sz39 rfl rfl (by first | assumption | omega)) ?_
   refine Dq (i := 19) rfl GS8 (fun _ _ => Y_field Try.underlying39 rfl fz39_2 (by decide) rfl) ?_
   refine Dq (i := 20) rfl GS8 (fun _ hs => Y_load Try.underlying33 rfl rfl (by first | exact hs.cell (by assumption) (by intro h; first | omega | (dsimp only at h; omega)) | exact hs.cell (cc2.at (by rfl)) (by intro h; first | omega | (dsimp only at h; omega)) | exact hs.cell (B1.at (by rfl)) (by intro h; first | omega | (dsimp only at h; omega)) | exact hs.cell (B2.at (by rfl)) (by intro h; first | omega | (dsimp only at h; omega)) | exact hs.cell (B5.at (by rfl)) (by intro h; first | omega | (dsimp only at h; omega)))) ?_
   refine D_2 (i := 1) (j := 14) (by kernel_rfl) ?_ ?_
   · -- operation 1 comes up
    refine E_val (i := 1) rfl (Y_load Try.underlying32 rfl rfl (B5.at (by rfl))) GS8 ?_
    refine D_1 (i := 14) (by kernel_rfl) ?_
    refine E_bs0 (i := 14) rfl Try.underlying33 sz3 ?_
    intro b10 w10 fb10 g10 B10
    refine ⟨GS8.grow g10, ?_⟩
    have lb10 := B10.lt
    replace hAl := hAl.grow g10
    replace hBl := hBl.grow g10
    replace cc2 := cc2.grow g10
    replace hE2 := hE2.grow g10
    replace OX := OX.grow g10
    replace OC1 := OC1.grow g10
    replace OR1 := OR1.grow g10
    replace G := G.grow g10
    replace GL7 := GL7.grow g10
    replace GS8 := GS8.grow g10
    replace B1 := B1.grow g10
    replace B2 := B2.grow g10
    replace B5 := B5.grow g10
    have zg10 := g10.size
    refine D_1 (i := 21) (by kernel_rfl) ?_
    have OY : OW (fun i => b10 ≤ i) w10 3 1 (some ⟨b10, 0, none⟩) 0 0 [] := OW.of_blk B10 rfl (by decide) (Nat.le_refl _)
    refine E_app0 (i := 21) rfl (news := ints h.cells[k].refs) Try.underlying33 zr3 sz3 by3 rfl rfl OY (by rw [ints_len]; omega) (by have hsr := Src.r1 hE2; rw [ints_len] at hsr; exact hsr) ints_one (by omega) (Pr' := fun i => b10 ≤ i) (fun i hi => hi) (by omega) ?_
    intro A11 cap11 w11 X11 m11
    replace OY := X11
    clear X11
    replace G := G.abv m11
    first | replace GL7 := GL7.abv m11 | clear GL7
    replace GS8 := GS8.abv m11
    replace hAl := hAl0.grow G
    replace hBl := hBl0.grow G
    replace cc2 := cc20.grow G
    replace hE2 := hE20.grow G
    replace OX := OX.md m11
    replace OC1 := OC1.md m11
    replace OR1 := OR1.md m11
    replace B1 := B1.md m11
    replace B2 := B2.md m11
    replace B5 := B5.md m11
    have zm11 := m11.size
    refine ⟨GS8, ?_⟩
    obtain ⟨AY, rfl⟩ : ∃ x, x = A11 := ⟨_, rfl⟩
    obtain ⟨capY, rfl⟩ : ∃ x, x = cap11 := ⟨_, rfl⟩
    refine Dq (i := 22) rfl GS8 (fun _ _ => Y_build (cs := [_, _, _]) zr39 pc39 rfl rfl) ?_
    refine D_1 (i := 23) (by kernel_rfl) ?_
    refine E_bs1 (cs := [_, _, _]) (i := 23) rfl Try.underlying32 zr39 sz39 rfl rfl rfl ?_
    intro b12 w12 fb12 g12 B12
    refine ⟨GS8.grow g12, ?_⟩
    have lb12 := B12.lt
    replace hAl := hAl.grow g12
    replace hBl := hBl.grow g12
    replace cc2 := cc2.grow g12
    replace hE2 := hE2.grow g12
    replace OX := OX.grow g12
    replace OC1 := OC1.grow g12
    replace OR1 := OR1.grow g12
    replace OY := OY.grow g12
    replace G := G.grow g12
    replace GL7 := GL7.grow g12
    replace GS8 := GS8.grow g12
    replace B1 := B1.grow g12
    replace B2 := B2.grow g12
    replace B5 := B5.grow g12
    have zg12 := g12.size
    refine D_1 (i := 24) (by kernel_rfl) ?_
    refine E_app2 (i := 24) rfl Try.underlying32 zr39 sz39 by39 rfl rfl OC1 rfl (Src.blk B12) (by simp [Value.oneCell']) (by omega) (Pr' := fun i => (wz ≤ i)) (fun i hi => by omega) (by omega) ?_
    intro A13 cap13 w13 X13 m13 n13
    replace OR1 := OR1.app OC1 hne n13
    replace OC1 := X13
    clear X13 n13
    replace G := G.abv m13
    replace GL7 := GL7.trn m13
    replace GS8 := GS8.trn m13
    replace hAl := hAl0.grow G
    replace hBl := hBl0.grow G
    replace cc2 := cc20.grow G
    replace hE2 := hE20.grow G
    replace OX := OX.md m13
    replace OY := OY.md m13
    replace B1 := B1.md m13
    replace B2 := B2.md m13
    replace B5 := B5.md m13
    have zm13 := m13.size
    refine ⟨GS8, ?_⟩
    have OR2 := OR1.more (c := h.cells[k]) OY (fun i hi => by omega) (Pr' := fun i => wz ≤ i) (fun i hi => by omega) (fun i hi => by omega)
    replace OC1 : OW (fun i => (wz ≤ i)) w13 39 3 A13 (q1 + 1) cap13 (flatC (h.cells.take (k + 1)) (rs ++ [(AY, capY)])) := by rw [List.take_succ_eq_append_getElem hk1, ← flat_more OR1.len]; exact OC1
    rw [← List.take_succ_eq_append_getElem hk1] at OR2
    refine Dq (i := 25) rfl GS8 (fun _ _ => Y_field Try.underlying35 rfl fz35_0 (by decide) rfl) ?_
    refine D_1 (i := 26) (by kernel_rfl) ?_
    refine E_stM (pre := []) (old := [_]) (post := [_]) (vs := [_]) (i := 26) rfl sz32 rfl rfl rfl (by first | rfl | assumption) B5 rfl rfl ?_
    intro w14 m14 X14
    replace B5 := Blk.eq (ys := [_, _]) X14 rfl
    clear X14
    replace G := G.abv m14
    replace GL7 := GL7.trn m14
    replace GS8 := GS8.trn m14
    replace hAl := hAl0.grow G
    replace hBl := hBl0.grow G
    replace cc2 := cc20.grow G
    replace hE2 := hE20.grow G
    replace OX := OX.md m14
    replace OC1 := OC1.md m14
    replace OR2 := OR2.md m14
    replace B1 := B1.md m14
    replace B2 := B2.md m14
    have zm14 := m14.size
    refine ⟨GS8, ?_⟩
    refine D_en (by kernel_rfl) rfl rfl ?_
    refine ib_n ?_
    refine th_n (hK7 _ _ ?_)
    clear hK7 K7
    refine Sb 44 rfl ?_  -- 4
    refine S_val (Y_move rfl) ?_
    refine S_val (Y_inc rfl rfl (by omega)) ?_
    refine S_val (Y_assign rfl) ?_
    refine S_nl rfl rfl ?_
    refine th_n ?_
    go_roundw  -- e1 of L1
    case rel =>
     refine ⟨?_, GL7⟩
     exact ⟨k + 1, _, _, _, _, rfl, by omega, by omega, B5, OC1, OR2⟩
    case measure =>
     exact dec_nat (by omega)
   · -- operation 14 comes up
    refine E_bs0 (i := 14) rfl Try.underlying33 sz3 ?_
    intro b15 w15 fb15 g15 B15
    refine ⟨GS8.grow g15, ?_⟩
    have lb15 := B15.lt
    replace hAl := hAl.grow g15
    replace hBl := hBl.grow g15
    replace cc2 := cc2.grow g15
    replace hE2 := hE2.grow g15
    replace OX := OX.grow g15
    replace OC1 := OC1.grow g15
    replace OR1 := OR1.grow g15
    replace G := G.grow g15
    replace GL7 := GL7.grow g15
    replace GS8 := GS8.grow g15
    replace B1 := B1.grow g15
    replace B2 := B2.grow g15
    replace B5 := B5.grow g15
    have zg15 := g15.size
    refine D_2 (i := 1) (j := 21) (by kernel_rfl) ?_ ?_
    · -- operation 1 comes up
     refine E_val (i := 1) rfl (Y_load Try.underlying32 rfl rfl (B5.at (by rfl))) GS8 ?_
     refine D_1 (i := 21) (by kernel_rfl) ?_
     have OY : OW (fun i => b15 ≤ i) w15 3 1 (some ⟨b15, 0, none⟩) 0 0 [] := OW.of_blk B15 rfl (by decide) (Nat.le_refl _)
     refine E_app0 (i := 21) rfl (news := ints h.cells[k].refs) Try.underlying33 zr3 sz3 by3 rfl rfl OY (by rw [ints_len]; omega) (by have hsr := Src.r1 hE2; rw [ints_len] at hsr; exact hsr) ints_one (by omega) (Pr' := fun i => b15 ≤ i) (fun i hi => hi) (by omega) ?_
     intro A17 cap17 w17 X17 m17
     replace OY := X17
     clear X17
     replace G := G.abv m17
     first | replace GL7 := GL7.abv m17 | clear GL7
     replace GS8 := GS8.abv m17
     replace hAl := hAl0.grow G
     replace hBl := hBl0.grow G
     replace cc2 := cc20.grow G
     replace hE2 := hE20.grow G
     replace OX := OX.md m17
     replace OC1 := OC1.md m17
     replace OR1 := OR1.md m17
     replace B1 := B1.md m17
     replace B2 := B2.md m17
     replace B5 := B5.md m17
     have zm17 := m17.size
     refine ⟨GS8, ?_⟩
     obtain ⟨AY, rfl⟩ : ∃ x, x = A17 := ⟨_, rfl⟩
     obtain ⟨capY, rfl⟩ : ∃ x, x = cap17 := ⟨_, rfl⟩
     refine Dq (i := 22) rfl GS8 (fun _ _ => Y_build (cs := [_, _, _]) zr39 pc39 rfl rfl) ?_
     refine D_1 (i := 23) (by kernel_rfl) ?_
     refine E_bs1 (cs := [_, _, _]) (i := 23) rfl Try.underlying32 zr39 sz39 rfl rfl rfl ?_
     intro b18 w18 fb18 g18 B18
     refine ⟨GS8.grow g18, ?_⟩
     have lb18 := B18.lt
     replace hAl := hAl.grow g18
     replace hBl := hBl.grow g18
     replace cc2 := cc2.grow g18
     replace hE2 := hE2.grow g18
     replace OX := OX.grow g18
     replace OC1 := OC1.grow g18
     replace OR1 := OR1.grow g18
     replace OY := OY.grow g18
     replace G := G.grow g18
     replace GL7 := GL7.grow g18
     replace GS8 := GS8.grow g18
     replace B1 := B1.grow g18
     replace B2 := B2.grow g18
     replace B5 := B5.grow g18
     have zg18 := g18.size
     refine D_1 (i := 24) (by kernel_rfl) ?_
     refine E_app2 (i := 24) rfl Try.underlying32 zr39 sz39 by39 rfl rfl OC1 rfl (Src.blk B18) (by simp [Value.oneCell']) (by omega) (Pr' := fun i => (wz ≤ i)) (fun i hi => by omega) (by omega) ?_
     intro A19 cap19 w19 X19 m19 n19
     replace OR1 := OR1.app OC1 hne n19
     replace OC1 := X19
     clear X19 n19
     replace G := G.abv m19
     replace GL7 := GL7.trn m19
     replace GS8 := GS8.trn m19
     replace hAl := hAl0.grow G
     replace hBl := hBl0.grow G
     replace cc2 := cc20.grow G
     replace hE2 := hE20.grow G
     replace OX := OX.md m19
     replace OY := OY.md m19
     replace B1 := B1.md m19
     replace B2 := B2.md m19
     replace B5 := B5.md m19
     have zm19 := m19.size
     refine ⟨GS8, ?_⟩
     have OR2 := OR1.more (c := h.cells[k]) OY (fun i hi => by omega) (Pr' := fun i => wz ≤ i) (fun i hi => by omega) (fun i hi => by omega)
     replace OC1 : OW (fun i => (wz ≤ i)) w19 39 3 A19 (q1 + 1) cap19 (flatC (h.cells.take (k + 1)) (rs ++ [(AY, capY)])) := by rw [List.take_succ_eq_append_getElem hk1, ← flat_more OR1.len]; exact OC1
     rw [← List.take_succ_eq_append_getElem hk1] at OR2
     refine Dq (i := 25) rfl GS8 (fun _ _ => Y_field Try.underlying35 rfl fz35_0 (by decide) rfl) ?_
     refine D_1 (i := 26) (by kernel_rfl) ?_
     refine E_stM (pre := []) (old := [_]) (post := [_]) (vs := [_]) (i := 26) rfl sz32 rfl rfl rfl (by first | rfl | assumption) B5 rfl rfl ?_
     intro w20 m20 X20
     replace B5 := Blk.eq (ys := [_, _]) X20 rfl
     clear X20
     replace G := G.abv m20
     replace GL7 := GL7.trn m20
     replace GS8 := GS8.trn m20
     replace hAl := hAl0.grow G
     replace hBl := hBl0.grow G
     replace cc2 := cc20.grow G
     replace hE2 := hE20.grow G
     replace OX := OX.md m20
     replace OC1 := OC1.md m20
     replace OR2 := OR2.md m20
     replace B1 := B1.md m20
     replace B2 := B2.md m20
     have zm20 := m20.size
     refine ⟨GS8, ?_⟩
     refine D_en (by kernel_rfl) rfl rfl ?_
     refine ib_n ?_
     refine th_n (hK7 _ _ ?_)
     clear hK7 K7
     refine Sb 44 rfl ?_  -- 4
     refine S_val (Y_move rfl) ?_
     refine S_val (Y_inc rfl rfl (by omega)) ?_
     refine S_val (Y_assign rfl) ?_
     refine S_nl rfl rfl ?_
     refine th_n ?_
     go_roundw  -- e2 of L1
     case rel =>
      refine ⟨?_, GL7⟩
      exact ⟨k + 1, _, _, _, _, rfl, by omega, by omega, B5, OC1, OR2⟩
     case measure =>
      exact dec_nat (by omega)
    · -- operation 21 comes up
     have OY : OW (fun i => b15 ≤ i) w15 3 1 (some ⟨b15, 0, none⟩) 0 0 [] := OW.of_blk B15 rfl (by decide) (Nat.le_refl _)
     refine E_app0 (i := 21) rfl (news := ints h.cells[k].refs) Try.underlying33 zr3 sz3 by3 rfl rfl OY (by rw [ints_len]; omega) (by have hsr := Src.r1 hE2; rw [ints_len] at hsr; exact hsr) ints_one (by omega) (Pr' := fun i => b15 ≤ i) (fun i hi => hi) (by omega) ?_
     intro A21 cap21 w21 X21 m21
     replace OY := X21
     clear X21
     replace G := G.abv m21
     first | replace GL7 := GL7.abv m21 | clear GL7
     replace GS8 := GS8.abv m21
     replace hAl := hAl0.grow G
     replace hBl := hBl0.grow G
     replace cc2 := cc20.grow G
     replace hE2 := hE20.grow G
     replace OX := OX.md m21
     replace OC1 := OC1.md m21
     replace OR1 := OR1.md m21
     replace B1 := B1.md m21
     replace B2 := B2.md m21
     replace B5 := B5.md m21
     have zm21 := m21.size
     refine ⟨GS8, ?_⟩
     obtain ⟨AY, rfl⟩ : ∃ x, x = A21 := ⟨_, rfl⟩
     obtain ⟨capY, rfl⟩ : ∃ x, x = cap21 := ⟨_, rfl⟩
     refine Dq (i := 22) rfl GS8 (fun _ _ => Y_build (cs := [_, _, _]) zr39 pc39 rfl rfl) ?_
     refine D_2 (i := 1) (j := 23) (by kernel_rfl) ?_ ?_
     · -- operation 1 comes up
      refine E_val (i := 1) rfl (Y_load Try.underlying32 rfl rfl (B5.at (by rfl))) GS8 ?_
      refine D_1 (i := 23) (by kernel_rfl) ?_
      refine E_bs1 (cs := [_, _, _]) (i := 23) rfl Try.underlying32 zr39 sz39 rfl rfl rfl ?_
      intro b23 w23 fb23 g23 B23
      refine ⟨GS8.grow g23, ?_⟩
      have lb23 := B23.lt
      replace hAl := hAl.grow g23
      replace hBl := hBl.grow g23
      replace cc2 := cc2.grow g23
      replace hE2 := hE2.grow g23
      replace OX := OX.grow g23
      replace OC1 := OC1.grow g23
      replace OR1 := OR1.grow g23
      replace OY := OY.grow g23
      replace G := G.grow g23
      replace GL7 := GL7.grow g23
      replace GS8 := GS8.grow g23
      replace B1 := B1.grow g23
      replace B2 := B2.grow g23
      replace B5 := B5.grow g23
      have zg23 := g23.size
      refine D_1 (i := 24) (by kernel_rfl) ?_
      refine E_app2 (i := 24) rfl Try.underlying32 zr39 sz39 by39 rfl rfl OC1 rfl (Src.blk B23) (by simp [Value.oneCell']) (by omega) (Pr' := fun i => (wz ≤ i)) (fun i hi => by omega) (by omega) ?_
      intro A24 cap24 w24 X24 m24 n24
      replace OR1 := OR1.app OC1 hne n24
      replace OC1 := X24
      clear X24 n24
      replace G := G.abv m24
      replace GL7 := GL7.trn m24
      replace GS8 := GS8.trn m24
      replace hAl := hAl0.grow G
      replace hBl := hBl0.grow G
      replace cc2 := cc20.grow G
      replace hE2 := hE20.grow G
      replace OX := OX.md m24
      replace OY := OY.md m24
      replace B1 := B1.md m24
      replace B2 := B2.md m24
      replace B5 := B5.md m24
      have zm24 := m24.size
      refine ⟨GS8, ?_⟩
      have OR2 := OR1.more (c := h.cells[k]) OY (fun i hi => by omega) (Pr' := fun i => wz ≤ i) (fun i hi => by omega) (fun i hi => by omega)
      replace OC1 : OW (fun i => (wz ≤ i)) w24 39 3 A24 (q1 + 1) cap24 (flatC (h.cells.take (k + 1)) (rs ++ [(AY, capY)])) := by rw [List.take_succ_eq_append_getElem hk1, ← flat_more OR1.len]; exact OC1
      rw [← List.take_succ_eq_append_getElem hk1] at OR2
      refine Dq (i := 25) rfl GS8 (fun _ _ => Y_field Try.underlying35 rfl fz35_0 (by decide) rfl) ?_
      refine D_1 (i := 26) (by kernel_rfl) ?_
      refine E_stM (pre := []) (old := [_]) (post := [_]) (vs := [_]) (i := 26) rfl sz32 rfl rfl rfl (by first | rfl | assumption) B5 rfl rfl ?_
      intro w25 m25 X25
      replace B5 := Blk.eq (ys := [_, _]) X25 rfl
      clear X25
      replace G := G.abv m25
      replace GL7 := GL7.trn m25
      replace GS8 := GS8.trn m25
      replace hAl := hAl0.grow G
      replace hBl := hBl0.grow G
      replace cc2 := cc20.grow G
      replace hE2 := hE20.grow G
      replace OX := OX.md m25
      replace OC1 := OC1.md m25
      replace OR2 := OR2.md m25
      replace B1 := B1.md m25
      replace B2 := B2.md m25
      have zm25 := m25.size
      refine ⟨GS8, ?_⟩
      refine D_en (by kernel_rfl) rfl rfl ?_
      refine ib_n ?_
      refine th_n (hK7 _ _ ?_)
      clear hK7 K7
      refine Sb 44 rfl ?_  -- 4
      refine S_val (Y_move rfl) ?_
      refine S_val (Y_inc rfl rfl (by omega)) ?_
      refine S_val (Y_assign rfl) ?_
      refine S_nl rfl rfl ?_
      refine th_n ?_
      go_roundw  -- e3 of L1
      case rel =>
       refine ⟨?_, GL7⟩
       exact ⟨k + 1, _, _, _, _, rfl, by omega, by omega, B5, OC1, OR2⟩
      case measure =>
       exact dec_nat (by omega)
     · -- operation 23 comes up
      refine E_bs1 (cs := [_, _, _]) (i := 23) rfl Try.underlying32 zr39 sz39 rfl rfl rfl ?_
      intro b26 w26 fb26 g26 B26
      refine ⟨GS8.grow g26, ?_⟩
      have lb26 := B26.lt
      replace hAl := hAl.grow g26
      replace hBl := hBl.grow g26
      replace cc2 := cc2.grow g26
      replace hE2 := hE2.grow g26
      replace OX := OX.grow g26
      replace OC1 := OC1.grow g26
      replace OR1 := OR1.grow g26
      replace OY := OY.grow g26
      replace G := G.grow g26
      replace GL7 := GL7.grow g26
      replace GS8 := GS8.grow g26
      replace B1 := B1.grow g26
      replace B2 := B2.grow g26
      replace B5 := B5.grow g26
      have zg26 := g26.size
      refine D_1 (i := 1) (by kernel_rfl) ?_
      refine E_val (i := 1) rfl (Y_load Try.underlying32 rfl rfl (B5.at (by rfl))) GS8 ?_
      refine D_1 (i := 24) (by kernel_rfl) ?_
      refine E_app2 (i := 24) rfl Try.underlying32 zr39 sz39 by39 rfl rfl OC1 rfl (Src.blk B26) (by simp [Value.oneCell']) (by omega) (Pr' := fun i => (wz ≤ i)) (fun i hi => by omega) (by omega) ?_
      intro A28 cap28 w28 X28 m28 n28
      replace OR1 := OR1.app OC1 hne n28
      replace OC1 := X28
      clear X28 n28
      replace G := G.abv m28
      replace GL7 := GL7.trn m28
      replace GS8 := GS8.trn m28
      replace hAl := hAl0.grow G
      replace hBl := hBl0.grow G
      replace cc2 := cc20.grow G
      replace hE2 := hE20.grow G
      replace OX := OX.md m28
      replace OY := OY.md m28
      replace B1 := B1.md m28
      replace B2 := B2.md m28
      replace B5 := B5.md m28
      have zm28 := m28.size
      refine ⟨GS8, ?_⟩
      have OR2 := OR1.more (c := h.cells[k]) OY (fun i hi => by omega) (Pr' := fun i => wz ≤ i) (fun i hi => by omega) (fun i hi => by omega)
      replace OC1 : OW (fun i => (wz ≤ i)) w28 39 3 A28 (q1 + 1) cap28 (flatC (h.cells.take (k + 1)) (rs ++ [(AY, capY)])) := by rw [List.take_succ_eq_append_getElem hk1, ← flat_more OR1.len]; exact OC1
      rw [← List.take_succ_eq_append_getElem hk1] at OR2
      refine Dq (i := 25) rfl GS8 (fun _ _ => Y_field Try.underlying35 rfl fz35_0 (by decide) rfl) ?_
      refine D_1 (i := 26) (by kernel_rfl) ?_
      refine E_stM (pre := []) (old := [_]) (post := [_]) (vs := [_]) (i := 26) rfl sz32 rfl rfl rfl (by first | rfl | assumption) B5 rfl rfl ?_
      intro w29 m29 X29
      replace B5 := Blk.eq (ys := [_, _]) X29 rfl
      clear X29
      replace G := G.abv m29
      replace GL7 := GL7.trn m29
      replace GS8 := GS8.trn m29
      replace hAl := hAl0.grow G
      replace hBl := hBl0.grow G
      replace cc2 := cc20.grow G
      replace hE2 := hE20.grow G
      replace OX := OX.md m29
      replace OC1 := OC1.md m29
      replace OR2 := OR2.md m29
      replace B1 := B1.md m29
      replace B2 := B2.md m29
      have zm29 := m29.size
      refine ⟨GS8, ?_⟩
      refine D_en (by kernel_rfl) rfl rfl ?_
      refine ib_n ?_
      refine th_n (hK7 _ _ ?_)
      clear hK7 K7
      refine Sb 44 rfl ?_  -- 4
      refine S_val (Y_move rfl) ?_
      refine S_val (Y_inc rfl rfl (by omega)) ?_
      refine S_val (Y_assign rfl) ?_
      refine S_nl rfl rfl ?_
      refine th_n ?_
      go_roundw  -- e4 of L1
      case rel =>
       refine ⟨?_, GL7⟩
       exact ⟨k + 1, _, _, _, _, rfl, by omega, by omega, B5, OC1, OR2⟩
      case measure =>
       exact dec_nat (by omega)
  · -- c1F
   replace hb1 := nb_tf hb1
   refine wp_exit ?_
   refine th_x ?_
   try clear GL7
   refine th_x ?_
   refine ib_e ?_
   refine th_n (hK3 _ _ ?_)
   clear hK5 K5 hK3 K3
   refine wp_seq_k fun K8 hK8 => ?_
   refine Sb 44 rfl ?_  -- 6
   refine S_val (Y_loadS Try.underlying35 rfl sz35 rfl (B5.row (by rfl))) ?_  -- l9
   refine S_stM (pre := []) (old := [_, _]) (post := []) (vs := [_, _]) sz35 rfl rfl rfl (by first | rfl | assumption) B2 rfl rfl ?_
   intro w30 m30 X30
   replace B2 := Blk.eq (ys := [_, _]) X30 rfl
   clear X30
   replace G := G.abv m30
   replace hAl := hAl0.grow G
   replace hBl := hBl0.grow G
   replace OX := OX.md m30
   replace OC1 := OC1.md m30
   replace OR1 := OR1.md m30
   replace B1 := B1.md m30
   replace B5 := B5.md m30
   have zm30 := m30.size
   refine S_nl rfl rfl ?_
   refine th_n (hK8 _ _ ?_)
   clear hK8 K8
   refine wp_ret ?_
   refine ret_rc (cs := [_, _]) Try.underlying35 rfl sz35 rfl rfl (B2.row (by rfl)) ?_  -- r1
   rw [List.take_of_length_le (by omega)] at hlk OC1 OR1
   rw [hq1, ← hlk] at OC1
   exact ⟨_, _, _, _, _, _, rs, rfl, by omega, rfl, XH.of_parts (h := h) OR1 OC1 OX.oi OX.cap (fun k b h1 h2 h3 => by omega) (fun k hk => by omega) (fun k hk => by omega), G⟩
set_option maxHeartbeats 400000 in
set_option maxRecDepth 20000 in
theorem spec_EmptyHeap2_c (w : World) :
    Calls Try.prog 115 #[] w (Ret fun v w' => ∃ A1 B1 n1 c1 n2 c2 rs, v = .agg #[.slice A1 n1 c1, .slice B1 n2 c2] ∧ n1 = (emptyH).cells.length ∧ n2 = (emptyH).roots.length ∧ XH (fun i => w.heap.size ≤ i) w' 39 3 A1 B1 (emptyH) rs c1 c2 ∧ Grow w w') := by
 refine enter Try.func115 rfl Try.ntmps115 (L := [_,_,_,_,_,_,_,_,_,_,_,_,_,_]) rfl ?_
 have G := Mod.refl No w
 refine wp_seq_k fun K1 hK1 => ?_
 refine Sb 14 rfl ?_  -- 0
 refine S_alloc (cs := [_, _]) zr35 rfl ?_
 intro b1 w1 fb1 g1 B1
 have lb1 := B1.lt
 replace G := G.grow g1
 have zg1 := g1.size
 refine S_nl rfl rfl ?_
 refine th_n (hK1 _ _ ?_)
 clear hK1 K1
 refine wp_seq_k fun K2 hK2 => ?_
 refine Sb 14 rfl ?_  -- 1
 refine S_val (Y_build (cs := [_, _]) zr35 pc35 rfl rfl) ?_
 refine S_alloc (cs := [_, _]) zr35 rfl ?_
 intro b2 w2 fb2 g2 B2
 have lb2 := B2.lt
 replace G := G.grow g2
 replace B1 := B1.grow g2
 have zg2 := g2.size
 refine S_stM (pre := []) (old := [_, _]) (post := []) (vs := [_, _]) sz35 rfl rfl rfl (by first | rfl | assumption) B2 rfl rfl ?_
 intro w3 m3 X3
 replace B2 := Blk.eq (ys := [_, _]) X3 rfl
 clear X3
 replace G := G.abv m3
 replace B1 := B1.md m3
 have zm3 := m3.size
 refine S_nl rfl rfl ?_
 refine th_n (hK2 _ _ ?_)
 clear hK2 K2
 refine wp_seq_k fun K3 hK3 => ?_
 refine wp_seq_k fun K4 hK4 => ?_
 refine Sb 14 rfl ?_  -- 2
 refine S_val (Y_assign rfl) ?_
 refine S_nl rfl rfl ?_
 refine th_n (hK4 _ _ ?_)
 clear hK4 K4
 refine wp_block ?_
 have O2 : OW (fun i => b2 < i) w3 3 1 none 0 0 (ints (List.replicate 0 (-1))) := OW.nil _ _ _ _
 go_loopw [2] (fun u2 wr => (∃ (k q cap : Nat) (A : Option Addr), u2 = .int .i64 k ∧ k ≤ 4 ∧ q = k ∧ Blk wr b2 35 [.slice none 0 0, .slice A q cap].toArray ∧ OW (fun i => b2 < i) wr 3 1 A q cap (ints (List.replicate k (-1)))) ∧ Mod (fun i => i = b2 ∨ b2 < i) w3 wr) (fun u2 wr => 4 - (intOf u2).toNat)  -- L1
 case atStart =>
  refine ⟨?_, Mod.refl _ _⟩
  exact ⟨0, 0, 0, none, rfl, by omega, rfl, B2, O2⟩
 case round =>
  obtain ⟨w4, rfl⟩ : ∃ x : World, x = wr := ⟨_, rfl⟩
  obtain ⟨hrel, g4⟩ := hrel
  clear B2
  clear O2
  replace G := G.abv g4
  replace B1 := B1.md g4
  have zg4 := g4.size
  obtain ⟨k, q2, cap2, A2, rfl, hk, hq2, B2, O2⟩ := hrel
  have GL4 := g4
  refine wp_seq_k fun K5 hK5 => ?_
  refine wp_seq_k fun K6 hK6 => ?_
  refine Sb 14 rfl ?_  -- 3
  refine S_val (Y_move rfl) ?_
  refine S_val (Y_lss rfl rfl) ?_
  refine S_nl rfl rfl ?_
  refine th_n (hK6 _ _ ?_)
  clear hK6 K6
  refine S_if rfl (fun hb1 => ?_) (fun hb1 => ?_)  -- c1
  · -- c1T
   replace hb1 := nb_tt hb1
   refine wp_skip ?_
   refine th_n (hK5 _ _ ?_)
   clear hK5 K5
   refine wp_seq_k fun K7 hK7 => ?_
   refine wp_block ?_
   refine Sb 14 rfl ?_  -- 5
   refine S_val (Y_field Try.underlying35 rfl fz35_1 (by decide) rfl) ?_
   refine S_val (Y_load Try.underlying33 rfl rfl (B2.at (by rfl))) ?_  -- l1
   refine S_bs1 (cs := [_]) Try.underlying33 zr3 sz3 rfl rfl rfl ?_
   intro b5 w5 fb5 g5 B5
   have lb5 := B5.lt
   replace O2 := O2.grow g5
   replace G := G.grow g5
   replace GL4 := GL4.grow g5
   replace B1 := B1.grow g5
   replace B2 := B2.grow g5
   have zg5 := g5.size
   refine S_app Try.underlying33 zr3 sz3 by3 rfl rfl O2 rfl (Src.blk B5) (by simp [Value.oneCell']) (by omega) (Pr' := fun i => b2 < i) (fun i hi => hi) (by omega) ?_
   intro A6 cap6 w6 X6 m6
   replace O2 := X6
   rw [ints_app, rep_snoc] at O2
   clear X6
   replace G := G.abv m6
   replace GL4 := GL4.trn m6
   replace B1 := B1.md m6
   replace B2 := B2.md m6
   have zm6 := m6.size
   refine S_val (Y_field Try.underlying35 rfl fz35_1 (by decide) rfl) ?_
   refine S_stM (pre := [_]) (old := [_]) (post := []) (vs := [_]) sz33 rfl rfl rfl (by first | rfl | assumption) B2 rfl rfl ?_
   intro w7 m7 X7
   replace B2 := Blk.eq (ys := [_, _]) X7 rfl
   clear X7
   replace G := G.abv m7
   replace GL4 := GL4.trn m7
   replace O2 := O2.md m7
   replace B1 := B1.md m7
   have zm7 := m7.size
   refine S_nl rfl rfl ?_
   refine ib_n ?_
   refine th_n (hK7 _ _ ?_)
   clear hK7 K7
   refine Sb 14 rfl ?_  -- 4
   refine S_val (Y_move rfl) ?_
   refine S_val (Y_inc rfl rfl (by omega)) ?_
   refine S_val (Y_assign rfl) ?_
   refine S_nl rfl rfl ?_
   refine th_n ?_
   go_roundw  -- e1 of L1
   case rel =>
    refine ⟨?_, GL4⟩
    exact ⟨k + 1, _, _, _, rfl, by omega, by omega, B2, O2⟩
   case measure =>
    exact dec_nat (by omega)
  · -- c1F
   replace hb1 := nb_tf hb1
   refine wp_exit ?_
   refine th_x ?_
   try clear GL4
   refine th_x ?_
   refine ib_e ?_
   refine th_n (hK3 _ _ ?_)
   clear hK5 K5 hK3 K3
   refine wp_seq_k fun K8 hK8 => ?_
   refine Sb 14 rfl ?_  -- 6
   refine S_val (Y_loadS Try.underlying35 rfl sz35 rfl (B2.row (by rfl))) ?_  -- l2
   refine S_stM (pre := []) (old := [_, _]) (post := []) (vs := [_, _]) sz35 rfl rfl rfl (by first | rfl | assumption) B1 rfl rfl ?_
   intro w8 m8 X8
   replace B1 := Blk.eq (ys := [_, _]) X8 rfl
   clear X8
   replace G := G.abv m8
   replace O2 := O2.md m8
   replace B2 := B2.md m8
   have zm8 := m8.size
   refine S_nl rfl rfl ?_
   refine th_n (hK8 _ _ ?_)
   clear hK8 K8
   refine wp_ret ?_
   refine ret_rc (cs := [_, _]) Try.underlying35 rfl sz35 rfl rfl (B1.row (by rfl)) ?_  -- r1
   have : k = 4 := by omega
   subst this
   subst hq2
   exact ⟨_, _, _, _, _, _, [], rfl, rfl, rfl, XH.bare (O2.weak (fun i hi => by omega)), G⟩
set_option maxHeartbeats 800000 in
set_option maxRecDepth 20000 in
theorem spec_l8Do_c (Pr : Nat → Prop) (A B : Option Addr) (h : LH) (c d pl : Nat) (oop oa ob oc : Int) (w : World) (hA : RC Pr w A h.cells) (hB : R1 Pr w B (ints h.roots)) (va : Valid h) (hcv : cvP ⟨oop, oa, ob, oc⟩) (hef : effectB h ⟨oop, oa, ob, oc⟩ = true) (hpl : oop = 1 → pl ≤ h.cells.length ∧ pl < 40) :
    Calls Try.prog 121 #[.agg #[.slice A h.cells.length c, .slice B h.roots.length d], .agg #[.int .i64 oop, .int .i64 oa, .int .i64 ob, .int .i64 oc], .int .i64 (pl : Int)] w (Ret fun v w' => ∃ A1 B1 n1 c1 n2 c2 rs h2, v = .agg #[.slice A1 n1 c1, .slice B1 n2 c2] ∧ n1 = h2.cells.length ∧ n2 = h2.roots.length ∧ Valid h2 ∧ XH (fun i => w.heap.size ≤ i) w' 39 3 A1 B1 h2 rs c1 c2 ∧ Grow w w') := by
 have hne : (39 : TypeId) ≠ 3 := by decide
 have hz1 := hsize_cells h
 have hz2 := hsize_roots h
 have hsm := va.small
 have hr4 := va.roots4
 obtain ⟨pa, rfl⟩ := Int.eq_ofNat_of_zero_le (show 0 ≤ oa by unfold cvP at hcv; dsimp only at hcv; omega)
 obtain ⟨pb, rfl⟩ := Int.eq_ofNat_of_zero_le (show 0 ≤ ob by unfold cvP at hcv; dsimp only at hcv; omega)
 obtain ⟨pc, rfl⟩ := Int.eq_ofNat_of_zero_le (show 0 ≤ oc by unfold cvP at hcv; dsimp only at hcv; omega)
 have hpa : pa < h.roots.length := by unfold cvP at hcv; dsimp only at hcv; omega
 have hAl := hA.below
 have hBl := hB.below
 refine enter Try.func121 rfl Try.ntmps121 (L := [_,_,_,_,_,_,_,_,_,_,_,_,_,_,_,_,_,_,_,_,_,_,_,_,_,_,_,_,_,_,_,_,_,_,_,_,_,_,_,_,_,_,_,_,_,_,_,_,_,_,_,_,_,_,_,_,_,_,_,_,_,_,_,_,_,_,_,_,_,_,_,_,_,_,_,_,_,_,_,_,_,_,_,_,_,_,_,_,_,_,_,_,_,_,_,_,_,_,_,_,_,_,_,_,_,_,_,_,_,_,_,_,_,_,_,_,_,_,_,_,_,_,_,_,_,_,_,_,_,_,_]) rfl ?_
 have G := Mod.refl No w
 have hAl0 := hAl
 have hBl0 := hBl
 refine wp_seq_k fun K1 hK1 => ?_
 refine Sb 131 rfl ?_  -- 0
 refine S_box (cs := [_, _]) rfl rfl ?_
 intro b1 w1 fb1 g1 B1
 have lb1 := B1.lt
 replace hAl := hAl.grow g1
 replace hBl := hBl.grow g1
 replace G := G.grow g1
 have zg1 := g1.size
 refine S_box (cs := [_, _, _, _]) rfl rfl ?_
 intro b2 w2 fb2 g2 B2
 have lb2 := B2.lt
 replace hAl := hAl.grow g2
 replace hBl := hBl.grow g2
 replace G := G.grow g2
 replace B1 := B1.grow g2
 have zg2 := g2.size
 refine S_alloc (cs := [_, _]) zr35 rfl ?_
 intro b3 w3 fb3 g3 B3
 have lb3 := B3.lt
 replace hAl := hAl.grow g3
 replace hBl := hBl.grow g3
 replace G := G.grow g3
 replace B1 := B1.grow g3
 replace B2 := B2.grow g3
 have zg3 := g3.size
 refine S_nl rfl rfl ?_
 refine th_n (hK1 _ _ ?_)
 clear hK1 K1
 refine wp_seq_k fun K2 hK2 => ?_
 refine Sb 131 rfl ?_  -- 1
 refine S_val (Y_loadS Try.underlying35 rfl sz35 rfl (B1.row (by rfl))) ?_  -- l1
 refine S_call rfl en120 (spec_l7Copy2_c _ _ _ _ _ _ _ (by assumption) (by assumption) (by omega)) ?_  -- k1 spec.l7Copy
 rintro v4 w4 ⟨A4, B4, n14, c14, n24, c24, rs4, rfl, hn14, hn24, O4, g4⟩
 replace hAl := hAl.grow g4
 replace hBl := hBl.grow g4
 replace G := G.grow g4
 replace B1 := B1.grow g4
 replace B2 := B2.grow g4
 replace B3 := B3.grow g4
 have zg4 := g4.size
 subst hn14
 subst hn24
 obtain ⟨AH, rfl⟩ : ∃ x, x = A4 := ⟨_, rfl⟩
 obtain ⟨BH, rfl⟩ : ∃ x, x = B4 := ⟨_, rfl⟩
 obtain ⟨cH, rfl⟩ : ∃ x, x = c14 := ⟨_, rfl⟩
 obtain ⟨dH, rfl⟩ : ∃ x, x = c24 := ⟨_, rfl⟩
 obtain ⟨rsH, rfl⟩ : ∃ x, x = rs4 := ⟨_, rfl⟩
 have OX := O4.lt
 obtain ⟨bR, postR, rfl, hpR, _⟩ := OX.roots (ints_ne.2 (fun e => by rw [e] at hr4; simp at hr4))
 try dsimp only at hpR
 refine S_alloc (cs := [_, _]) zr35 rfl ?_
 intro b5 w5 fb5 g5 B5
 have lb5 := B5.lt
 replace hAl := hAl.grow g5
 replace hBl := hBl.grow g5
 replace OX := OX.grow g5
 replace G := G.grow g5
 replace B1 := B1.grow g5
 replace B2 := B2.grow g5
 replace B3 := B3.grow g5
 have zg5 := g5.size
 refine S_stM (pre := []) (old := [_, _]) (post := []) (vs := [_, _]) sz35 rfl rfl rfl (by first | rfl | assumption) B5 rfl rfl ?_
 intro w6 m6 X6
 replace B5 := Blk.eq (ys := [_, _]) X6 rfl
 clear X6
 replace G := G.abv m6
 replace hAl := hAl0.grow G
 replace hBl := hBl0.grow G
 replace OX := OX.md m6
 replace B1 := B1.md m6
 replace B2 := B2.md m6
 replace B3 := B3.md m6
 have zm6 := m6.size
 refine S_nl rfl rfl ?_
 refine th_n (hK2 _ _ ?_)
 clear hK2 K2
 refine wp_seq_k fun K3 hK3 => ?_
 refine wp_seq_k fun K4 hK4 => ?_
 refine Sb 131 rfl ?_  -- 2
 refine S_val (Y_field Try.underlying24 rfl fz24_0 (by decide) rfl) ?_
 refine S_val (Y_load Try.underlying3 rfl rfl (B2.at (by rfl))) ?_  -- l2
 refine S_nl rfl rfl ?_
 refine th_n (hK4 _ _ ?_)
 clear hK4 K4
 refine wp_block ?_
 refine wp_seq_k fun K5 hK5 => ?_
 refine Sb 131 rfl ?_  -- 3
 refine S_val (Y_eql rfl rfl) ?_
 refine S_val (Y_assign rfl) ?_
 refine S_nl rfl rfl ?_
 refine th_n (hK5 _ _ ?_)
 clear hK5 K5
 refine S_if rfl (fun hb1 => ?_) (fun hb1 => ?_)  -- c1
 · -- c1T
  replace hb1 := nb_tt hb1
  have hcu := hcv
  unfold cvP at hcu
  dsimp only at hcu
  have hpl2 := hpl hb1
  have hpb3 : pb ≤ 3 := by omega
  have hpc9 : pc ≤ 99 := by omega
  refine wp_seq_k fun K6 hK6 => ?_
  refine Sb 131 rfl ?_  -- 4
  refine S_val (Y_field Try.underlying24 rfl fz24_3 (by decide) rfl) ?_
  refine S_val (Y_load Try.underlying3 rfl rfl (B2.at (by rfl))) ?_  -- l3
  refine S_val (Y_build (cs := [_, _, _]) zr39 pc39 rfl rfl) ?_
  refine S_alloc (cs := [_, _, _]) zr39 rfl ?_
  intro b7 w7 fb7 g7 B7
  have lb7 := B7.lt
  replace hAl := hAl.grow g7
  replace hBl := hBl.grow g7
  replace OX := OX.grow g7
  replace G := G.grow g7
  replace B1 := B1.grow g7
  replace B2 := B2.grow g7
  replace B3 := B3.grow g7
  replace B5 := B5.grow g7
  have zg7 := g7.size
  refine S_stM (pre := []) (old := [_, _, _]) (post := []) (vs := [_, _, _]) sz39 rfl rfl rfl (by first | rfl | assumption) B7 rfl rfl ?_
  intro w8 m8 X8
  replace B7 := Blk.eq (ys := [_, _, _]) X8 rfl
  clear X8
  replace G := G.abv m8
  replace hAl := hAl0.grow G
  replace hBl := hBl0.grow G
  replace OX := OX.md m8
  replace B1 := B1.md m8
  replace B2 := B2.md m8
  replace B3 := B3.md m8
  replace B5 := B5.md m8
  have zm8 := m8.size
  refine S_nl rfl rfl ?_
  refine th_n (hK6 _ _ ?_)
  clear hK6 K6
  refine wp_seq_k fun K7 hK7 => ?_
  refine wp_seq_k fun K8 hK8 => ?_
  refine Sb 131 rfl ?_  -- 5
  refine S_val (Y_assign rfl) ?_
  refine S_nl rfl rfl ?_
  refine th_n (hK8 _ _ ?_)
  clear hK8 K8
  refine wp_block ?_
  obtain ⟨wz, hwz⟩ : ∃ x, x = w8.heap.size := ⟨_, rfl⟩
  have O6 : OW (fun i => wz ≤ i) w8 3 1 none 0 0 (ints (List.replicate 0 (-1))) := OW.nil _ _ _ _
  go_loopw [9] (fun u9 wr => (∃ (k q cap : Nat) (A1 : Option Addr), u9 = .int .i64 k ∧ k ≤ pb ∧ q = k ∧ Blk wr b7 39 [.bool true, .int .i64 (pc : Int), .slice A1 q cap].toArray ∧ OW (fun i => wz ≤ i) wr 3 1 A1 q cap (ints (List.replicate k (-1)))) ∧ Mod (fun i => i = b7 ∨ wz ≤ i) w8 wr) (fun u9 wr => pb - (intOf u9).toNat)  -- L1
  case atStart =>
   refine ⟨?_, Mod.refl _ _⟩
   exact ⟨0, 0, 0, none, rfl, by omega, rfl, B7, O6⟩
  case round =>
   obtain ⟨w9, rfl⟩ : ∃ x : World, x = wr := ⟨_, rfl⟩
   obtain ⟨hrel, g9⟩ := hrel
   clear B7
   clear O6
   replace G := G.abv g9
   replace hAl := hAl0.grow G
   replace hBl := hBl0.grow G
   replace OX := OX.md g9
   replace B1 := B1.md g9
   replace B2 := B2.md g9
   replace B3 := B3.md g9
   replace B5 := B5.md g9
   have zg9 := g9.size
   obtain ⟨k, q1, cap1, A1, rfl, hk, hq1, B7, O6⟩ := hrel
   have GL9 := g9
   refine wp_seq_k fun K9 hK9 => ?_
   refine wp_seq_k fun K10 hK10 => ?_
   refine Sb 131 rfl ?_  -- 6
   refine S_val (Y_move rfl) ?_
   refine S_val (Y_field Try.underlying24 rfl fz24_2 (by decide) rfl) ?_
   refine S_val (Y_load Try.underlying3 rfl rfl (B2.at (by rfl))) ?_  -- l4
   refine S_val (Y_lss rfl rfl) ?_
   refine S_nl rfl rfl ?_
   refine th_n (hK10 _ _ ?_)
   clear hK10 K10
   refine S_if rfl (fun hb2 => ?_) (fun hb2 => ?_)  -- c2
   · -- c2T
    replace hb2 := nb_tt hb2
    refine wp_skip ?_
    refine th_n (hK9 _ _ ?_)
    clear hK9 K9
    refine wp_seq_k fun K11 hK11 => ?_
    refine wp_block ?_
    refine Sb 131 rfl ?_  -- 8
    refine S_val (Y_field Try.underlying39 rfl fz39_2 (by decide) rfl) ?_
    refine S_val (Y_load Try.underlying33 rfl rfl (B7.at (by rfl))) ?_  -- l5
    refine S_bs1 (cs := [_]) Try.underlying33 zr3 sz3 rfl rfl rfl ?_
    intro b10 w10 fb10 g10 B10
    have lb10 := B10.lt
    replace hAl := hAl.grow g10
    replace hBl := hBl.grow g10
    replace OX := OX.grow g10
    replace O6 := O6.grow g10
    replace G := G.grow g10
    replace GL9 := GL9.grow g10
    replace B1 := B1.grow g10
    replace B2 := B2.grow g10
    replace B3 := B3.grow g10
    replace B5 := B5.grow g10
    replace B7 := B7.grow g10
    have zg10 := g10.size
    refine S_app Try.underlying33 zr3 sz3 by3 rfl rfl O6 rfl (Src.blk B10) (by simp [Value.oneCell']) (by omega) (Pr' := fun i => wz ≤ i) (fun i hi => hi) (by omega) ?_
    intro A11 cap11 w11 X11 m11
    replace O6 := X11
    rw [ints_app, rep_snoc] at O6
    clear X11
    replace G := G.abv m11
    replace GL9 := GL9.trn m11
    replace hAl := hAl0.grow G
    replace hBl := hBl0.grow G
    replace OX := OX.md m11
    replace B1 := B1.md m11
    replace B2 := B2.md m11
    replace B3 := B3.md m11
    replace B5 := B5.md m11
    replace B7 := B7.md m11
    have zm11 := m11.size
    refine S_val (Y_field Try.underlying39 rfl fz39_2 (by decide) rfl) ?_
    refine S_stM (pre := [_, _]) (old := [_]) (post := []) (vs := [_]) sz33 rfl rfl rfl (by first | rfl | assumption) B7 rfl rfl ?_
    intro w12 m12 X12
    replace B7 := Blk.eq (ys := [_, _, _]) X12 rfl
    clear X12
    replace G := G.abv m12
    replace GL9 := GL9.trn m12
    replace hAl := hAl0.grow G
    replace hBl := hBl0.grow G
    replace OX := OX.md m12
    replace O6 := O6.md m12
    replace B1 := B1.md m12
    replace B2 := B2.md m12
    replace B3 := B3.md m12
    replace B5 := B5.md m12
    have zm12 := m12.size
    refine S_nl rfl rfl ?_
    refine ib_n ?_
    refine th_n (hK11 _ _ ?_)
    clear hK11 K11
    refine Sb 131 rfl ?_  -- 7
    refine S_val (Y_move rfl) ?_
    refine S_val (Y_inc rfl rfl (by omega)) ?_
    refine S_val (Y_assign rfl) ?_
    refine S_nl rfl rfl ?_
    refine th_n ?_
    go_roundw  -- e1 of L1
    case rel =>
     refine ⟨?_, GL9⟩
     exact ⟨k + 1, _, _, _, rfl, by omega, by omega, B7, O6⟩
    case measure =>
     exact dec_nat (by omega)
   · -- c2F
    replace hb2 := nb_tf hb2
    have hkb : k = pb := by omega
    subst hkb
    obtain rfl : q1 = (List.replicate k (-1 : Int)).length := by rw [List.length_replicate]; exact hq1
    replace O6 := O6.lt
    refine wp_exit ?_
    refine th_x ?_
    try clear GL9
    refine th_x ?_
    refine ib_e ?_
    refine th_n (hK7 _ _ ?_)
    clear hK9 K9 hK7 K7
    refine wp_seq_k fun K12 hK12 => ?_
    refine wp_seq_k fun K13 hK13 => ?_
    refine Sb 131 rfl ?_  -- 9
    refine S_val (Y_move rfl) ?_
    refine S_val (Y_field Try.underlying35 rfl fz35_0 (by decide) rfl) ?_
    refine S_val (Y_load Try.underlying32 rfl rfl (B5.at (by rfl))) ?_  -- l6
    refine S_val (Y_len Try.underlying32 rfl) ?_
    refine S_val (Y_eql rfl rfl) ?_
    refine S_nl rfl rfl ?_
    refine th_n (hK13 _ _ ?_)
    clear hK13 K13
    refine S_if rfl (fun hb3 => ?_) (fun hb3 => ?_)  -- c3
    · -- c3T
     replace hb3 := nb_tt hb3
     have hpe : pl = h.cells.length := by omega
     subst hpe
     refine Sb 131 rfl ?_  -- 10
     refine S_val (Y_field Try.underlying35 rfl fz35_0 (by decide) rfl) ?_
     refine S_val (Y_load Try.underlying32 rfl rfl (B5.at (by rfl))) ?_  -- l7
     refine S_val (Y_loadS Try.underlying39 rfl sz39 rfl (B7.row (by rfl))) ?_  -- l8
     refine S_bs1 (cs := [_, _, _]) Try.underlying32 zr39 sz39 rfl rfl rfl ?_
     intro b13 w13 fb13 g13 B13
     have lb13 := B13.lt
     replace hAl := hAl.grow g13
     replace hBl := hBl.grow g13
     replace OX := OX.grow g13
     replace O6 := O6.grow g13
     replace G := G.grow g13
     replace B1 := B1.grow g13
     replace B2 := B2.grow g13
     replace B3 := B3.grow g13
     replace B5 := B5.grow g13
     replace B7 := B7.grow g13
     have zg13 := g13.size
     refine S_app2 Try.underlying32 zr39 sz39 by39 rfl rfl OX.row rfl (Src.blk B13) (by simp [Value.oneCell']) (by omega) (Pr' := fun i => b3 < i ∧ i ≠ b5) (fun i hi => by first | omega | (dsimp only at hi; omega)) (by omega) ?_
     intro A14 cap14 w14 X14 m14 n14
     have OY := OX.add hne (z := ⟨true, (pc : Int), List.replicate k (-1)⟩) O6.oi (fun i hi => by first | omega | (dsimp only at hi ⊢; omega)) n14 X14 (fun i hi => by first | omega | (dsimp only at hi ⊢; omega)) (fun i hi => by first | omega | (dsimp only at hi ⊢; omega))
     replace G := G.abv m14
     replace hAl := hAl0.grow G
     replace hBl := hBl0.grow G
     replace O6 := O6.md m14
     replace B1 := B1.md m14
     replace B2 := B2.md m14
     replace B3 := B3.md m14
     replace B5 := B5.md m14
     replace B7 := B7.md m14
     have zm14 := m14.size
     refine S_val (Y_field Try.underlying35 rfl fz35_0 (by decide) rfl) ?_
     refine S_stM (pre := []) (old := [_]) (post := [_]) (vs := [_]) sz32 rfl rfl rfl (by first | rfl | assumption) B5 rfl rfl ?_
     intro w15 m15 X15
     replace B5 := Blk.eq (ys := [_, _]) X15 rfl
     clear X15
     replace G := G.abv m15
     replace hAl := hAl0.grow G
     replace hBl := hBl0.grow G
     replace O6 := O6.md m15
     replace OY := OY.md m15
     replace B1 := B1.md m15
     replace B2 := B2.md m15
     replace B3 := B3.md m15
     replace B7 := B7.md m15
     have zm15 := m15.size
     refine S_nl rfl rfl ?_
     refine th_n (hK12 _ _ ?_)
     clear hK12 K12
     refine Sb 131 rfl ?_  -- 12
     refine S_val (Y_field Try.underlying35 rfl fz35_1 (by decide) rfl) ?_
     refine S_val (Y_load Try.underlying33 rfl rfl (B5.at (by rfl))) ?_  -- l9
     refine S_val (Y_field Try.underlying24 rfl fz24_1 (by decide) rfl) ?_
     refine S_val (Y_load Try.underlying3 rfl rfl (B2.at (by rfl))) ?_  -- l10
     refine S_val (Y_move rfl) ?_
     refine S_val (Y_index Try.underlying33 sz3 rfl rfl (by first | assumption | omega)) ?_
     refine S_of (Ys_root sz3 OY hne (k := pa) (by show pa < h.roots.length; omega) rfl rfl) ?_
     rintro w16 ⟨m16, hp16, OXF⟩
     replace G := G.abv m16
     replace hAl := hAl0.grow G
     replace hBl := hBl0.grow G
     replace O6 := O6.md m16
     replace B1 := B1.md m16
     replace B2 := B2.md m16
     replace B3 := B3.md m16
     replace B5 := B5.md m16
     replace B7 := B7.md m16
     have zm16 := m16.size
     first | (have hvF := valid_newAt (k := pa) (n := k) (d := (pc : Int)) va hpe ⟨by omega, by omega⟩ (by omega)) | (have hvF := valid_new (k := pa) (n := k) (d := (pc : Int)) va hpl2.2 ⟨by omega, by omega⟩ (by omega))
     refine S_nl rfl rfl ?_
     refine ib_n ?_
     refine th_n (hK3 _ _ ?_)
     clear hK3 K3
     refine wp_seq_k fun K14 hK14 => ?_
     refine Sb 131 rfl ?_  -- 23
     refine S_val (Y_loadS Try.underlying35 rfl sz35 rfl (B5.row (by rfl))) ?_  -- l11
     refine S_stM (pre := []) (old := [_, _]) (post := []) (vs := [_, _]) sz35 rfl rfl rfl (by first | rfl | assumption) B3 rfl rfl ?_
     intro w17 m17 X17
     replace B3 := Blk.eq (ys := [_, _]) X17 rfl
     clear X17
     replace G := G.abv m17
     replace hAl := hAl0.grow G
     replace hBl := hBl0.grow G
     replace O6 := O6.md m17
     replace OXF := OXF.md m17
     replace B1 := B1.md m17
     replace B2 := B2.md m17
     replace B5 := B5.md m17
     replace B7 := B7.md m17
     have zm17 := m17.size
     refine S_nl rfl rfl ?_
     refine th_n (hK14 _ _ ?_)
     clear hK14 K14
     refine wp_ret ?_
     refine ret_rc (cs := [_, _]) Try.underlying35 rfl sz35 rfl rfl (B3.row (by rfl)) ?_  -- r1
     exact ⟨_, _, _, _, _, _, _, _, rfl, by simp, by simp, hvF, OXF.weak (fun i hi => by first | omega | (dsimp only at hi; omega)), G⟩
    · -- c3F
     replace hb3 := nb_tf hb3
     have hpe : pl < h.cells.length := by omega
     obtain ⟨gC, RC0, capC, rfl, hpC, _, _, _, _⟩ := OX.cellAt hne hpe
     try dsimp only at hpC
     refine Sb 131 rfl ?_  -- 11
     refine S_val (Y_field Try.underlying35 rfl fz35_0 (by decide) rfl) ?_
     refine S_val (Y_load Try.underlying32 rfl rfl (B5.at (by rfl))) ?_  -- l12
     refine S_val (Y_move rfl) ?_
     refine S_val (Y_loadS Try.underlying39 rfl sz39 rfl (B7.row (by rfl))) ?_  -- l13
     refine S_val (Y_index Try.underlying32 sz39 rfl rfl (by first | assumption | omega)) ?_
     refine S_of (Ys_cell (z := ⟨true, (pc : Int), List.replicate k (-1)⟩) sz39 OX hne hpe O6.oi (fun i hi => by first | omega | (dsimp only at hi ⊢; omega)) rfl rfl) ?_
     rintro w18 ⟨m18, hp18, OY⟩
     replace OY := OY.weak (Pr' := fun i => b3 < i ∧ i ≠ b5) (fun i hi => by rcases hi with hi | hi <;> first | omega | (dsimp only at hi ⊢; omega))
     replace G := G.abv m18
     replace hAl := hAl0.grow G
     replace hBl := hBl0.grow G
     replace O6 := O6.md m18
     replace B1 := B1.md m18
     replace B2 := B2.md m18
     replace B3 := B3.md m18
     replace B5 := B5.md m18
     replace B7 := B7.md m18
     have zm18 := m18.size
     refine S_nl rfl rfl ?_
     refine th_n (hK12 _ _ ?_)
     clear hK12 K12
     refine Sb 131 rfl ?_  -- 12
     refine S_val (Y_field Try.underlying35 rfl fz35_1 (by decide) rfl) ?_
     refine S_val (Y_load Try.underlying33 rfl rfl (B5.at (by rfl))) ?_  -- l14
     refine S_val (Y_field Try.underlying24 rfl fz24_1 (by decide) rfl) ?_
     refine S_val (Y_load Try.underlying3 rfl rfl (B2.at (by rfl))) ?_  -- l15
     refine S_val (Y_move rfl) ?_
     refine S_val (Y_index Try.underlying33 sz3 rfl rfl (by first | assumption | omega)) ?_
     refine S_of (Ys_root sz3 OY hne (k := pa) (by show pa < h.roots.length; omega) rfl rfl) ?_
     rintro w19 ⟨m19, hp19, OXF⟩
     replace G := G.abv m19
     replace hAl := hAl0.grow G
     replace hBl := hBl0.grow G
     replace O6 := O6.md m19
     replace B1 := B1.md m19
     replace B2 := B2.md m19
     replace B3 := B3.md m19
     replace B5 := B5.md m19
     replace B7 := B7.md m19
     have zm19 := m19.size
     first | (have hvF := valid_newAt (k := pa) (n := k) (d := (pc : Int)) va hpe ⟨by omega, by omega⟩ (by omega)) | (have hvF := valid_new (k := pa) (n := k) (d := (pc : Int)) va hpl2.2 ⟨by omega, by omega⟩ (by omega))
     refine S_nl rfl rfl ?_
     refine ib_n ?_
     refine th_n (hK3 _ _ ?_)
     clear hK3 K3
     refine wp_seq_k fun K15 hK15 => ?_
     refine Sb 131 rfl ?_  -- 23
     refine S_val (Y_loadS Try.underlying35 rfl sz35 rfl (B5.row (by rfl))) ?_  -- l16
     refine S_stM (pre := []) (old := [_, _]) (post := []) (vs := [_, _]) sz35 rfl rfl rfl (by first | rfl | assumption) B3 rfl rfl ?_
     intro w20 m20 X20
     replace B3 := Blk.eq (ys := [_, _]) X20 rfl
     clear X20
     replace G := G.abv m20
     replace hAl := hAl0.grow G
     replace hBl := hBl0.grow G
     replace O6 := O6.md m20
     replace OXF := OXF.md m20
     replace B1 := B1.md m20
     replace B2 := B2.md m20
     replace B5 := B5.md m20
     replace B7 := B7.md m20
     have zm20 := m20.size
     refine S_nl rfl rfl ?_
     refine th_n (hK15 _ _ ?_)
     clear hK15 K15
     refine wp_ret ?_
     refine ret_rc (cs := [_, _]) Try.underlying35 rfl sz35 rfl rfl (B3.row (by rfl)) ?_  -- r2
     exact ⟨_, _, _, _, _, _, _, _, rfl, by simp, by simp, hvF, OXF.weak (fun i hi => by first | omega | (dsimp only at hi; omega)), G⟩
 · -- c1F
  replace hb1 := nb_tf hb1
  refine wp_seq_k fun K16 hK16 => ?_
  refine Sb 131 rfl ?_  -- 13
  refine S_val (Y_eql rfl rfl) ?_
  refine S_val (Y_assign rfl) ?_
  refine S_nl rfl rfl ?_
  refine th_n (hK16 _ _ ?_)
  clear hK16 K16
  refine S_if rfl (fun hb2 => ?_) (fun hb2 => ?_)  -- c4
  · -- c4T
   replace hb2 := nb_tt hb2
   have hcu := hcv
   unfold cvP at hcu
   dsimp only at hcu
   have hpb4 : pb < h.roots.length := by omega
   have hpe : placeB h ((pb : Nat) : Int) (pc : Int) = true := by rw [hb2] at hef; simpa [effectB] using hef
   rw [placeB_at hpb4, Bool.and_eq_true, decide_eq_true_eq, decide_eq_true_eq] at hpe
   obtain ⟨m, hm, hmN⟩ := valid_root va hpb4 hpe.1
   have hj : pc < h.cells[m].refs.length := by have h9 := hpe.2; rw [hm, Int.toNat_natCast, refsOf_at hmN] at h9; omega
   have hmu := root_used va hpb4 hm hmN
   have hvF := valid_setRoot va (k := pa) (va.refs hmN _ (List.getElem_mem hj))
   refine D_start 21 131 (fun w => Mod (fun i => i = bR) w) follows rfl rfl ?_  -- d1 r14
   intro w21 g21
   replace hAl := hAl.grow g21
   replace hBl := hBl.grow g21
   replace OX := OX.grow g21
   replace G := G.grow g21
   replace B1 := B1.grow g21
   replace B2 := B2.grow g21
   replace B3 := B3.grow g21
   replace B5 := B5.grow g21
   have zg21 := g21.size
   have GS21 := Mod.refl (fun i => i = bR) w21
   obtain ⟨gB, oB, eB, hpB, hcB⟩ := hBl.int (k := pb) (by omega)
   cases eB
   rw [hm] at hcB
   obtain ⟨g2, o2, E2, d2, eA, hp2, cc2, hE2⟩ := hAl.cell hmN
   cases eA
   obtain ⟨g5, o5, e5, hp5, hc5⟩ := hE2.int hj
   cases e5
   refine Dq (i := 0) rfl GS21 (fun _ _ => Y_field Try.underlying35 rfl fz35_1 (by decide) rfl) ?_
   refine Dq (i := 1) rfl GS21 (fun _ hs => Y_load Try.underlying33 rfl rfl (by first | exact hs.cell (B5.at (by rfl)) (by intro h; first | omega | (dsimp only at h; omega)))) ?_
   refine Dq (i := 2) rfl GS21 (fun _ _ => Y_field Try.underlying24 rfl fz24_1 (by decide) rfl) ?_
   refine Dq (i := 3) rfl GS21 (fun _ hs => Y_load Try.underlying3 rfl rfl (by first | exact hs.cell (B2.at (by rfl)) (by intro h; first | omega | (dsimp only at h; omega)))) ?_
   refine Dq (i := 4) rfl GS21 (fun _ _ => Y_field Try.underlying35 rfl fz35_0 (by decide) rfl) ?_
   refine Dq (i := 5) rfl GS21 (fun _ hs => Y_load Try.underlying32 rfl rfl (by first | exact hs.cell (B1.at (by rfl)) (by intro h; first | omega | (dsimp only at h; omega)))) ?_
   refine Dq (i := 6) rfl GS21 (fun _ _ => Y_field Try.underlying35 rfl fz35_1 (by decide) rfl) ?_
   refine Dq (i := 7) rfl GS21 (fun _ hs => Y_load Try.underlying33 rfl rfl (by first | exact hs.cell (B1.at (by rfl)) (by intro h; first | omega | (dsimp only at h; omega)))) ?_
   refine Dq (i := 8) rfl GS21 (fun _ _ => Y_field Try.underlying24 rfl fz24_2 (by decide) rfl) ?_
   refine Dq (i := 9) rfl GS21 (fun _ hs => Y_load Try.underlying3 rfl rfl (by first | exact hs.cell (B2.at (by rfl)) (by intro h; first | omega | (dsimp only at h; omega)))) ?_
   refine Dq (i := 10) rfl GS21 (fun _ _ => Y_index Try.underlying33 sz3 rfl rfl (by first | assumption | omega)) ?_
   refine Dq (i := 11) rfl GS21 (fun _ hs => Y_load Try.underlying3 rfl rfl (by first | exact hs.cell (by assumption) (by intro h; first | omega | (dsimp only at h; omega)) | exact hs.cell (cc2.at (by rfl)) (by intro h; first | omega | (dsimp only at h; omega)) | exact hs.cell (B1.at (by rfl)) (by intro h; first | omega | (dsimp only at h; omega)) | exact hs.cell (B2.at (by rfl)) (by intro h; first | omega | (dsimp only at h; omega)) | exact hs.cell (B3.at (by rfl)) (by intro h; first | omega | (dsimp only at h; omega)) | exact hs.cell (B5.at (by rfl)) (by intro h; first | omega | (dsimp only at h; omega)))) ?_
   refine Dq (i := 12) rfl GS21 (fun _ _ => Y_index Try.underlying32 sz39 rfl rfl (by first | assumption | omega)) ?_
   refine Dq (i := 13) rfl GS21 (fun _ _ => Y_field Try.underlying39 rfl fz39_2 (by decide) rfl) ?_
   refine Dq (i := 14) rfl GS21 (fun _ hs => Y_load Try.underlying33 rfl rfl (by first | exact hs.cell (by assumption) (by intro h; first | omega | (dsimp only at h; omega)) | exact hs.cell (cc2.at (by rfl)) (by intro h; first | omega | (dsimp only at h; omega)) | exact hs.cell (B1.at (by rfl)) (by intro h; first | omega | (dsimp only at h; omega)) | exact hs.cell (B2.at (by rfl)) (by intro h; first | omega | (dsimp only at h; omega)) | exact hs.cell (B3.at (by rfl)) (by intro h; first | omega | (dsimp only at h; omega)) | exact hs.cell (B5.at (by rfl)) (by intro h; first | omega | (dsimp only at h; omega)))) ?_
   refine Dq (i := 15) rfl GS21 (fun _ _ => Y_field Try.underlying24 rfl fz24_3 (by decide) rfl) ?_
   refine Dq (i := 16) rfl GS21 (fun _ hs => Y_load Try.underlying3 rfl rfl (by first | exact hs.cell (B2.at (by rfl)) (by intro h; first | omega | (dsimp only at h; omega)))) ?_
   refine Dq (i := 17) rfl GS21 (fun _ _ => Y_index Try.underlying33 sz3 rfl rfl (by first | assumption | omega)) ?_
   refine Dq (i := 18) rfl GS21 (fun _ hs => Y_load Try.underlying3 rfl rfl (by first | exact hs.cell (by assumption) (by intro h; first | omega | (dsimp only at h; omega)) | exact hs.cell (cc2.at (by rfl)) (by intro h; first | omega | (dsimp only at h; omega)) | exact hs.cell (B1.at (by rfl)) (by intro h; first | omega | (dsimp only at h; omega)) | exact hs.cell (B2.at (by rfl)) (by intro h; first | omega | (dsimp only at h; omega)) | exact hs.cell (B3.at (by rfl)) (by intro h; first | omega | (dsimp only at h; omega)) | exact hs.cell (B5.at (by rfl)) (by intro h; first | omega | (dsimp only at h; omega)))) ?_
   refine Dq (i := 19) rfl GS21 (fun _ _ => Y_index Try.underlying33 sz3 rfl rfl (by first | assumption | omega)) ?_
   refine D_1 (i := 20) (by kernel_rfl) ?_
   refine E_of (i := 20) rfl (Ys_root sz3 OX hne (k := pa) (by omega) rfl rfl) ?_
   rintro w22 ⟨m22, hp22, OXF⟩
   try dsimp only at hp22
   replace G := G.abv m22
   replace GS21 := GS21.trn m22
   replace hAl := hAl0.grow G
   replace hBl := hBl0.grow G
   replace B1 := B1.md m22
   replace B2 := B2.md m22
   replace B3 := B3.md m22
   replace B5 := B5.md m22
   clear cc2
   have zm22 := m22.size
   refine ⟨GS21, ?_⟩
   refine D_en (by kernel_rfl) rfl rfl ?_
   refine ib_n ?_
   refine th_n (hK3 _ _ ?_)
   clear hK3 K3
   refine wp_seq_k fun K17 hK17 => ?_
   refine Sb 131 rfl ?_  -- 23
   refine S_val (Y_loadS Try.underlying35 rfl sz35 rfl (B5.row (by rfl))) ?_  -- l26
   refine S_stM (pre := []) (old := [_, _]) (post := []) (vs := [_, _]) sz35 rfl rfl rfl (by first | rfl | assumption) B3 rfl rfl ?_
   intro w23 m23 X23
   replace B3 := Blk.eq (ys := [_, _]) X23 rfl
   clear X23
   replace G := G.abv m23
   replace hAl := hAl0.grow G
   replace hBl := hBl0.grow G
   replace OXF := OXF.md m23
   replace B1 := B1.md m23
   replace B2 := B2.md m23
   replace B5 := B5.md m23
   have zm23 := m23.size
   refine S_nl rfl rfl ?_
   refine th_n (hK17 _ _ ?_)
   clear hK17 K17
   refine wp_ret ?_
   refine ret_rc (cs := [_, _]) Try.underlying35 rfl sz35 rfl rfl (B3.row (by rfl)) ?_  -- r3
   exact ⟨_, _, _, _, _, _, _, _, rfl, by simp, by simp, hvF, OXF.weak (fun i hi => by first | omega | (dsimp only at hi; omega)), G⟩
  · -- c4F
   replace hb2 := nb_tf hb2
   refine wp_seq_k fun K18 hK18 => ?_
   refine Sb 131 rfl ?_  -- 15
   refine S_val (Y_eql rfl rfl) ?_
   refine S_val (Y_assign rfl) ?_
   refine S_nl rfl rfl ?_
   refine th_n (hK18 _ _ ?_)
   clear hK18 K18
   refine S_if rfl (fun hb3 => ?_) (fun hb3 => ?_)  -- c5
   · -- c5T
    replace hb3 := nb_tt hb3
    have hcu := hcv
    unfold cvP at hcu
    dsimp only at hcu
    have hpb4 : pb < h.roots.length := by omega
    have hpe : placeB h ((pa : Nat) : Int) (pc : Int) = true := by rw [hb3] at hef; simpa [effectB] using hef
    rw [placeB_at hpa, Bool.and_eq_true, decide_eq_true_eq, decide_eq_true_eq] at hpe
    obtain ⟨m, hm, hmN⟩ := valid_root va hpa hpe.1
    have hj : pc < h.cells[m].refs.length := by have h9 := hpe.2; rw [hm, Int.toNat_natCast, refsOf_at hmN] at h9; omega
    have hmu := root_used va hpa hm hmN
    have hvF := valid_setRef va hmN hmu (j := pc) (va.roots _ (List.getElem_mem hpb4))
    obtain ⟨gC, RX, capX, rfl, hpC, hrs, ccx, hRX, hRb⟩ := OX.cellAt hne hmN
    try dsimp only at hpC
    obtain ⟨bX, rfl, hpX, hXC⟩ := hRb (by omega)
    try dsimp only at hpX
    refine D_start 21 131 (fun w => Mod (fun i => i = bX) w) follows rfl rfl ?_  -- d2 r16
    intro w24 g24
    replace hAl := hAl.grow g24
    replace hBl := hBl.grow g24
    replace OX := OX.grow g24
    replace G := G.grow g24
    replace B1 := B1.grow g24
    replace B2 := B2.grow g24
    replace B3 := B3.grow g24
    replace B5 := B5.grow g24
    replace ccx := ccx.grow g24
    have zg24 := g24.size
    have GS24 := Mod.refl (fun i => i = bX) w24
    obtain ⟨gB, oB, eB, hpB, hcB⟩ := hBl.int hpa
    cases eB
    rw [hm] at hcB
    obtain ⟨gD, oD, eD, hpD, hcD⟩ := hBl.int hpb4
    cases eD
    refine Dq (i := 0) rfl GS24 (fun _ _ => Y_field Try.underlying35 rfl fz35_0 (by decide) rfl) ?_
    refine Dq (i := 1) rfl GS24 (fun _ hs => Y_load Try.underlying32 rfl rfl (by first | exact hs.cell (B5.at (by rfl)) (by intro h; first | omega | (dsimp only at h; omega)))) ?_
    refine Dq (i := 2) rfl GS24 (fun _ _ => Y_field Try.underlying35 rfl fz35_1 (by decide) rfl) ?_
    refine Dq (i := 3) rfl GS24 (fun _ hs => Y_load Try.underlying33 rfl rfl (by first | exact hs.cell (B1.at (by rfl)) (by intro h; first | omega | (dsimp only at h; omega)))) ?_
    refine Dq (i := 4) rfl GS24 (fun _ _ => Y_field Try.underlying24 rfl fz24_1 (by decide) rfl) ?_
    refine Dq (i := 5) rfl GS24 (fun _ hs => Y_load Try.underlying3 rfl rfl (by first | exact hs.cell (B2.at (by rfl)) (by intro h; first | omega | (dsimp only at h; omega)))) ?_
    refine Dq (i := 6) rfl GS24 (fun _ _ => Y_index Try.underlying33 sz3 rfl rfl (by first | assumption | omega)) ?_
    refine Dq (i := 7) rfl GS24 (fun _ hs => Y_load Try.underlying3 rfl rfl (by first | exact hs.cell (by assumption) (by intro h; first | omega | (dsimp only at h; omega)) | exact hs.cell (ccx.at (by rfl)) (by intro h; first | omega | (dsimp only at h; omega)) | exact hs.cell (B1.at (by rfl)) (by intro h; first | omega | (dsimp only at h; omega)) | exact hs.cell (B2.at (by rfl)) (by intro h; first | omega | (dsimp only at h; omega)) | exact hs.cell (B3.at (by rfl)) (by intro h; first | omega | (dsimp only at h; omega)) | exact hs.cell (B5.at (by rfl)) (by intro h; first | omega | (dsimp only at h; omega)))) ?_
    refine Dq (i := 8) rfl GS24 (fun _ _ => Y_index Try.underlying32 sz39 rfl rfl (by first | assumption | omega)) ?_
    refine Dq (i := 9) rfl GS24 (fun _ _ => Y_field Try.underlying39 rfl fz39_2 (by decide) rfl) ?_
    refine Dq (i := 10) rfl GS24 (fun _ hs => Y_load Try.underlying33 rfl rfl (by first | exact hs.cell (by assumption) (by intro h; first | omega | (dsimp only at h; omega)) | exact hs.cell (ccx.at (by rfl)) (by intro h; first | omega | (dsimp only at h; omega)) | exact hs.cell (B1.at (by rfl)) (by intro h; first | omega | (dsimp only at h; omega)) | exact hs.cell (B2.at (by rfl)) (by intro h; first | omega | (dsimp only at h; omega)) | exact hs.cell (B3.at (by rfl)) (by intro h; first | omega | (dsimp only at h; omega)) | exact hs.cell (B5.at (by rfl)) (by intro h; first | omega | (dsimp only at h; omega)))) ?_
    refine Dq (i := 11) rfl GS24 (fun _ _ => Y_field Try.underlying24 rfl fz24_3 (by decide) rfl) ?_
    refine Dq (i := 12) rfl GS24 (fun _ hs => Y_load Try.underlying3 rfl rfl (by first | exact hs.cell (B2.at (by rfl)) (by intro h; first | omega | (dsimp only at h; omega)))) ?_
    refine Dq (i := 13) rfl GS24 (fun _ _ => Y_field Try.underlying35 rfl fz35_1 (by decide) rfl) ?_
    refine Dq (i := 14) rfl GS24 (fun _ hs => Y_load Try.underlying33 rfl rfl (by first | exact hs.cell (B1.at (by rfl)) (by intro h; first | omega | (dsimp only at h; omega)))) ?_
    refine Dq (i := 15) rfl GS24 (fun _ _ => Y_field Try.underlying24 rfl fz24_2 (by decide) rfl) ?_
    refine Dq (i := 16) rfl GS24 (fun _ hs => Y_load Try.underlying3 rfl rfl (by first | exact hs.cell (B2.at (by rfl)) (by intro h; first | omega | (dsimp only at h; omega)))) ?_
    refine Dq (i := 17) rfl GS24 (fun _ _ => Y_index Try.underlying33 sz3 rfl rfl (by first | assumption | omega)) ?_
    refine Dq (i := 18) rfl GS24 (fun _ hs => Y_load Try.underlying3 rfl rfl (by first | exact hs.cell (by assumption) (by intro h; first | omega | (dsimp only at h; omega)) | exact hs.cell (ccx.at (by rfl)) (by intro h; first | omega | (dsimp only at h; omega)) | exact hs.cell (B1.at (by rfl)) (by intro h; first | omega | (dsimp only at h; omega)) | exact hs.cell (B2.at (by rfl)) (by intro h; first | omega | (dsimp only at h; omega)) | exact hs.cell (B3.at (by rfl)) (by intro h; first | omega | (dsimp only at h; omega)) | exact hs.cell (B5.at (by rfl)) (by intro h; first | omega | (dsimp only at h; omega)))) ?_
    refine Dq (i := 19) rfl GS24 (fun _ _ => Y_index Try.underlying33 sz3 rfl rfl (by first | assumption | omega)) ?_
    refine D_1 (i := 20) (by kernel_rfl) ?_
    refine E_of (i := 20) rfl (Ys_ref sz3 OX hne hmN hrs hj rfl rfl) ?_
    rintro w25 ⟨m25, hp25, OXF⟩
    try dsimp only at hp25
    replace G := G.abv m25
    replace GS24 := GS24.trn m25
    replace hAl := hAl0.grow G
    replace hBl := hBl0.grow G
    replace B1 := B1.md m25
    replace B2 := B2.md m25
    replace B3 := B3.md m25
    replace B5 := B5.md m25
    clear ccx
    have zm25 := m25.size
    refine ⟨GS24, ?_⟩
    refine D_en (by kernel_rfl) rfl rfl ?_
    refine ib_n ?_
    refine th_n (hK3 _ _ ?_)
    clear hK3 K3
    refine wp_seq_k fun K19 hK19 => ?_
    refine Sb 131 rfl ?_  -- 23
    refine S_val (Y_loadS Try.underlying35 rfl sz35 rfl (B5.row (by rfl))) ?_  -- l36
    refine S_stM (pre := []) (old := [_, _]) (post := []) (vs := [_, _]) sz35 rfl rfl rfl (by first | rfl | assumption) B3 rfl rfl ?_
    intro w26 m26 X26
    replace B3 := Blk.eq (ys := [_, _]) X26 rfl
    clear X26
    replace G := G.abv m26
    replace hAl := hAl0.grow G
    replace hBl := hBl0.grow G
    replace OXF := OXF.md m26
    replace B1 := B1.md m26
    replace B2 := B2.md m26
    replace B5 := B5.md m26
    have zm26 := m26.size
    refine S_nl rfl rfl ?_
    refine th_n (hK19 _ _ ?_)
    clear hK19 K19
    refine wp_ret ?_
    refine ret_rc (cs := [_, _]) Try.underlying35 rfl sz35 rfl rfl (B3.row (by rfl)) ?_  -- r4
    exact ⟨_, _, _, _, _, _, _, _, rfl, by simp, by simp, hvF, OXF.weak (fun i hi => by first | omega | (dsimp only at hi; omega)), G⟩
   · -- c5F
    replace hb3 := nb_tf hb3
    refine wp_seq_k fun K20 hK20 => ?_
    refine Sb 131 rfl ?_  -- 17
    refine S_val (Y_eql rfl rfl) ?_
    refine S_val (Y_assign rfl) ?_
    refine S_nl rfl rfl ?_
    refine th_n (hK20 _ _ ?_)
    clear hK20 K20
    refine S_if rfl (fun hb4 => ?_) (fun hb4 => ?_)  -- c6
    · -- c6T
     replace hb4 := nb_tt hb4
     have hcu := hcv
     unfold cvP at hcu
     dsimp only at hcu
     have hpb4 : pb < h.roots.length := by omega
     have hvF := valid_setRoot va (k := pa) (va.roots _ (List.getElem_mem hpb4))
     refine D_start 12 131 (fun w => Mod (fun i => i = bR) w) follows rfl rfl ?_  -- d3 r18
     intro w27 g27
     replace hAl := hAl.grow g27
     replace hBl := hBl.grow g27
     replace OX := OX.grow g27
     replace G := G.grow g27
     replace B1 := B1.grow g27
     replace B2 := B2.grow g27
     replace B3 := B3.grow g27
     replace B5 := B5.grow g27
     have zg27 := g27.size
     have GS27 := Mod.refl (fun i => i = bR) w27
     obtain ⟨gB, oB, eB, hpB, hcB⟩ := hBl.int (k := pb) (by omega)
     cases eB
     refine Dq (i := 0) rfl GS27 (fun _ _ => Y_field Try.underlying35 rfl fz35_1 (by decide) rfl) ?_
     refine Dq (i := 1) rfl GS27 (fun _ hs => Y_load Try.underlying33 rfl rfl (by first | exact hs.cell (B5.at (by rfl)) (by intro h; first | omega | (dsimp only at h; omega)))) ?_
     refine Dq (i := 2) rfl GS27 (fun _ _ => Y_field Try.underlying24 rfl fz24_1 (by decide) rfl) ?_
     refine Dq (i := 3) rfl GS27 (fun _ hs => Y_load Try.underlying3 rfl rfl (by first | exact hs.cell (B2.at (by rfl)) (by intro h; first | omega | (dsimp only at h; omega)))) ?_
     refine Dq (i := 4) rfl GS27 (fun _ _ => Y_field Try.underlying35 rfl fz35_1 (by decide) rfl) ?_
     refine Dq (i := 5) rfl GS27 (fun _ hs => Y_load Try.underlying33 rfl rfl (by first | exact hs.cell (B1.at (by rfl)) (by intro h; first | omega | (dsimp only at h; omega)))) ?_
     refine Dq (i := 6) rfl GS27 (fun _ _ => Y_field Try.underlying24 rfl fz24_2 (by decide) rfl) ?_
     refine Dq (i := 7) rfl GS27 (fun _ hs => Y_load Try.underlying3 rfl rfl (by first | exact hs.cell (B2.at (by rfl)) (by intro h; first | omega | (dsimp only at h; omega)))) ?_
     refine Dq (i := 8) rfl GS27 (fun _ _ => Y_index Try.underlying33 sz3 rfl rfl (by first | assumption | omega)) ?_
     refine Dq (i := 9) rfl GS27 (fun _ hs => Y_load Try.underlying3 rfl rfl (by first | exact hs.cell (by assumption) (by intro h; first | omega | (dsimp only at h; omega)) | exact hs.cell (B1.at (by rfl)) (by intro h; first | omega | (dsimp only at h; omega)) | exact hs.cell (B2.at (by rfl)) (by intro h; first | omega | (dsimp only at h; omega)) | exact hs.cell (B3.at (by rfl)) (by intro h; first | omega | (dsimp only at h; omega)) | exact hs.cell (B5.at (by rfl)) (by intro h; first | omega | (dsimp only at h; omega)))) ?_
     refine Dq (i := 10) rfl GS27 (fun _ _ => Y_index Try.underlying33 sz3 rfl rfl (by first | assumption | omega)) ?_
     refine D_1 (i := 11) (by kernel_rfl) ?_
     refine E_of (i := 11) rfl (Ys_root sz3 OX hne (k := pa) (by omega) rfl rfl) ?_
     rintro w28 ⟨m28, hp28, OXF⟩
     try dsimp only at hp28
     replace G := G.abv m28
     replace GS27 := GS27.trn m28
     replace hAl := hAl0.grow G
     replace hBl := hBl0.grow G
     replace B1 := B1.md m28
     replace B2 := B2.md m28
     replace B3 := B3.md m28
     replace B5 := B5.md m28
     have zm28 := m28.size
     refine ⟨GS27, ?_⟩
     refine D_en (by kernel_rfl) rfl rfl ?_
     refine ib_n ?_
     refine th_n (hK3 _ _ ?_)
     clear hK3 K3
     refine wp_seq_k fun K21 hK21 => ?_
     refine Sb 131 rfl ?_  -- 23
     refine S_val (Y_loadS Try.underlying35 rfl sz35 rfl (B5.row (by rfl))) ?_  -- l42
     refine S_stM (pre := []) (old := [_, _]) (post := []) (vs := [_, _]) sz35 rfl rfl rfl (by first | rfl | assumption) B3 rfl rfl ?_
     intro w29 m29 X29
     replace B3 := Blk.eq (ys := [_, _]) X29 rfl
     clear X29
     replace G := G.abv m29
     replace hAl := hAl0.grow G
     replace hBl := hBl0.grow G
     replace OXF := OXF.md m29
     replace B1 := B1.md m29
     replace B2 := B2.md m29
     replace B5 := B5.md m29
     have zm29 := m29.size
     refine S_nl rfl rfl ?_
     refine th_n (hK21 _ _ ?_)
     clear hK21 K21
     refine wp_ret ?_
     refine ret_rc (cs := [_, _]) Try.underlying35 rfl sz35 rfl rfl (B3.row (by rfl)) ?_  -- r5
     exact ⟨_, _, _, _, _, _, _, _, rfl, by simp, by simp, hvF, OXF.weak (fun i hi => by first | omega | (dsimp only at hi; omega)), G⟩
    · -- c6F
     replace hb4 := nb_tf hb4
     refine wp_seq_k fun K22 hK22 => ?_
     refine Sb 131 rfl ?_  -- 19
     refine S_val (Y_eql rfl rfl) ?_
     refine S_val (Y_assign rfl) ?_
     refine S_nl rfl rfl ?_
     refine th_n (hK22 _ _ ?_)
     clear hK22 K22
     refine S_if rfl (fun hb5 => ?_) (fun hb5 => ?_)  -- c7
     · -- c7T
      replace hb5 := nb_tt hb5
      have hvF := valid_setRoot va (k := pa) (leadsB_m1 h.cells)
      refine Sb 131 rfl ?_  -- 20
      refine S_val (Y_field Try.underlying35 rfl fz35_1 (by decide) rfl) ?_
      refine S_val (Y_load Try.underlying33 rfl rfl (B5.at (by rfl))) ?_  -- l43
      refine S_val (Y_field Try.underlying24 rfl fz24_1 (by decide) rfl) ?_
      refine S_val (Y_load Try.underlying3 rfl rfl (B2.at (by rfl))) ?_  -- l44
      refine S_val (Y_index Try.underlying33 sz3 rfl rfl (by first | assumption | omega)) ?_
      refine S_of (Ys_root sz3 OX hne (k := pa) (by omega) rfl rfl) ?_
      rintro w30 ⟨m30, hp30, OXF⟩
      try dsimp only at hp30
      replace G := G.abv m30
      replace hAl := hAl0.grow G
      replace hBl := hBl0.grow G
      replace B1 := B1.md m30
      replace B2 := B2.md m30
      replace B3 := B3.md m30
      replace B5 := B5.md m30
      have zm30 := m30.size
      refine S_nl rfl rfl ?_
      refine ib_n ?_
      refine th_n (hK3 _ _ ?_)
      clear hK3 K3
      refine wp_seq_k fun K23 hK23 => ?_
      refine Sb 131 rfl ?_  -- 23
      refine S_val (Y_loadS Try.underlying35 rfl sz35 rfl (B5.row (by rfl))) ?_  -- l45
      refine S_stM (pre := []) (old := [_, _]) (post := []) (vs := [_, _]) sz35 rfl rfl rfl (by first | rfl | assumption) B3 rfl rfl ?_
      intro w31 m31 X31
      replace B3 := Blk.eq (ys := [_, _]) X31 rfl
      clear X31
      replace G := G.abv m31
      replace hAl := hAl0.grow G
      replace hBl := hBl0.grow G
      replace OXF := OXF.md m31
      replace B1 := B1.md m31
      replace B2 := B2.md m31
      replace B5 := B5.md m31
      have zm31 := m31.size
      refine S_nl rfl rfl ?_
      refine th_n (hK23 _ _ ?_)
      clear hK23 K23
      refine wp_ret ?_
      refine ret_rc (cs := [_, _]) Try.underlying35 rfl sz35 rfl rfl (B3.row (by rfl)) ?_  -- r6
      exact ⟨_, _, _, _, _, _, _, _, rfl, by simp, by simp, hvF, OXF.weak (fun i hi => by first | omega | (dsimp only at hi; omega)), G⟩
     · -- c7F
      replace hb5 := nb_tf hb5
      refine wp_seq_k fun K24 hK24 => ?_
      refine Sb 131 rfl ?_  -- 21
      refine S_val (Y_eql rfl rfl) ?_
      refine S_val (Y_assign rfl) ?_
      refine S_nl rfl rfl ?_
      refine th_n (hK24 _ _ ?_)
      clear hK24 K24
      refine S_if rfl (fun hb6 => ?_) (fun hb6 => ?_)  -- c8
      · -- c8T
       replace hb6 := nb_tt hb6
       have hcu := hcv
       unfold cvP at hcu
       dsimp only at hcu
       have hpe : rootB h (pa : Int) = true := by rw [hb6] at hef; simpa [effectB] using hef
       rw [rootB_at hpa, decide_eq_true_eq] at hpe
       obtain ⟨m, hm, hmN⟩ := valid_root va hpa hpe
       have hmu := root_used va hpa hm hmN
       have hvF := valid_setData va hmN hmu (x := (pb : Int)) (by omega)
       obtain ⟨gC, RX, capX, rfl, hpC, _, _, _, _⟩ := OX.cellAt hne hmN
       try dsimp only at hpC
       refine D_start 13 131 (fun w => Mod (fun i => i = gC) w) follows rfl rfl ?_  -- d4 r22
       intro w32 g32
       replace hAl := hAl.grow g32
       replace hBl := hBl.grow g32
       replace OX := OX.grow g32
       replace G := G.grow g32
       replace B1 := B1.grow g32
       replace B2 := B2.grow g32
       replace B3 := B3.grow g32
       replace B5 := B5.grow g32
       have zg32 := g32.size
       have GS32 := Mod.refl (fun i => i = gC) w32
       obtain ⟨gB, oB, eB, hpB, hcB⟩ := hBl.int hpa
       cases eB
       rw [hm] at hcB
       refine Dq (i := 0) rfl GS32 (fun _ _ => Y_field Try.underlying35 rfl fz35_0 (by decide) rfl) ?_
       refine Dq (i := 1) rfl GS32 (fun _ hs => Y_load Try.underlying32 rfl rfl (by first | exact hs.cell (B5.at (by rfl)) (by intro h; first | omega | (dsimp only at h; omega)))) ?_
       refine Dq (i := 2) rfl GS32 (fun _ _ => Y_field Try.underlying35 rfl fz35_1 (by decide) rfl) ?_
       refine Dq (i := 3) rfl GS32 (fun _ hs => Y_load Try.underlying33 rfl rfl (by first | exact hs.cell (B1.at (by rfl)) (by intro h; first | omega | (dsimp only at h; omega)))) ?_
       refine Dq (i := 4) rfl GS32 (fun _ _ => Y_field Try.underlying24 rfl fz24_1 (by decide) rfl) ?_
       refine Dq (i := 5) rfl GS32 (fun _ hs => Y_load Try.underlying3 rfl rfl (by first | exact hs.cell (B2.at (by rfl)) (by intro h; first | omega | (dsimp only at h; omega)))) ?_
       refine Dq (i := 6) rfl GS32 (fun _ _ => Y_index Try.underlying33 sz3 rfl rfl (by first | assumption | omega)) ?_
       refine Dq (i := 7) rfl GS32 (fun _ hs => Y_load Try.underlying3 rfl rfl (by first | exact hs.cell (by assumption) (by intro h; first | omega | (dsimp only at h; omega)) | exact hs.cell (B1.at (by rfl)) (by intro h; first | omega | (dsimp only at h; omega)) | exact hs.cell (B2.at (by rfl)) (by intro h; first | omega | (dsimp only at h; omega)) | exact hs.cell (B3.at (by rfl)) (by intro h; first | omega | (dsimp only at h; omega)) | exact hs.cell (B5.at (by rfl)) (by intro h; first | omega | (dsimp only at h; omega)))) ?_
       refine Dq (i := 8) rfl GS32 (fun _ _ => Y_field Try.underlying24 rfl fz24_2 (by decide) rfl) ?_
       refine Dq (i := 9) rfl GS32 (fun _ hs => Y_load Try.underlying3 rfl rfl (by first | exact hs.cell (B2.at (by rfl)) (by intro h; first | omega | (dsimp only at h; omega)))) ?_
       refine Dq (i := 10) rfl GS32 (fun _ _ => Y_index Try.underlying32 sz39 rfl rfl (by first | assumption | omega)) ?_
       refine Dq (i := 11) rfl GS32 (fun _ _ => Y_field Try.underlying39 rfl fz39_1 (by decide) rfl) ?_
       refine D_1 (i := 12) (by kernel_rfl) ?_
       refine E_of (i := 12) rfl (Ys_data sz3 OX hne hmN rfl rfl) ?_
       rintro w33 ⟨m33, hp33, OXF⟩
       try dsimp only at hp33
       replace G := G.abv m33
       replace GS32 := GS32.trn m33
       replace hAl := hAl0.grow G
       replace hBl := hBl0.grow G
       replace B1 := B1.md m33
       replace B2 := B2.md m33
       replace B3 := B3.md m33
       replace B5 := B5.md m33
       have zm33 := m33.size
       refine ⟨GS32, ?_⟩
       refine D_en (by kernel_rfl) rfl rfl ?_
       refine ib_n ?_
       refine th_n (hK3 _ _ ?_)
       clear hK3 K3
       refine wp_seq_k fun K25 hK25 => ?_
       refine Sb 131 rfl ?_  -- 23
       refine S_val (Y_loadS Try.underlying35 rfl sz35 rfl (B5.row (by rfl))) ?_  -- l51
       refine S_stM (pre := []) (old := [_, _]) (post := []) (vs := [_, _]) sz35 rfl rfl rfl (by first | rfl | assumption) B3 rfl rfl ?_
       intro w34 m34 X34
       replace B3 := Blk.eq (ys := [_, _]) X34 rfl
       clear X34
       replace G := G.abv m34
       replace hAl := hAl0.grow G
       replace hBl := hBl0.grow G
       replace OXF := OXF.md m34
       replace B1 := B1.md m34
       replace B2 := B2.md m34
       replace B5 := B5.md m34
       have zm34 := m34.size
       refine S_nl rfl rfl ?_
       refine th_n (hK25 _ _ ?_)
       clear hK25 K25
       refine wp_ret ?_
       refine ret_rc (cs := [_, _]) Try.underlying35 rfl sz35 rfl rfl (B3.row (by rfl)) ?_  -- r7
       exact ⟨_, _, _, _, _, _, _, _, rfl, by simp, by simp, hvF, OXF.weak (fun i hi => by first | omega | (dsimp only at hi; omega)), G⟩
      · -- c8F
       replace hb6 := nb_tf hb6
       unfold cvP at hcv; dsimp only at hcv; omega
end
end Go.Proofs.Ytikgflhepclfgaa
