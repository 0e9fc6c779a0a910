/-
  The order of a walk that goes as deep as possible.
  Conditions: none.
-/
import Derived.Test.YtfcblicpfbfojaaSteps
namespace Go.Proofs.Ytfcblicpfbfojaa
open Go

/-- Walk from the reference r on; s is what was met before. -/
def dw1 (cs : List LC) : Nat → List Int → Int → List Int
  | 0, s, _ => s
  | f + 1, s, r => if 0 ≤ r ∧ r ∉ s then (refsOf cs r.toNat).foldl (dw1 cs f) (s ++ [r]) else s
theorem dw1_old {cs : List LC} {f : Nat} {s : List Int} {r : Int} (h : ¬ (0 ≤ r ∧ r ∉ s)) : dw1 cs f s r = s := by
  cases f with
  | zero => rfl
  | succ f => exact if_neg h
theorem dw1_new {cs : List LC} {f n : Nat} {s : List Int} (h : (n : Int) ∉ s) : dw1 cs (f + 1) s (n : Int) = (refsOf cs n).foldl (dw1 cs f) (s ++ [(n : Int)]) := by
  unfold dw1
  rw [if_pos ⟨by omega, h⟩]
  rfl
theorem foldl_inv {α β : Type} {p : β → β → Prop} {q : β → Prop} {g : β → α → β} {ok : α → Prop} (hr : ∀ b, p b b) (ht : ∀ a b c, p a b → p b c → p a c) (hg : ∀ b x, ok x → q b → p b (g b x) ∧ q (g b x)) :
    ∀ (l : List α) (b : β), (∀ x ∈ l, ok x) → q b → p b (l.foldl g b) ∧ q (l.foldl g b)
  | [], b, _, hq => ⟨hr b, hq⟩
  | x :: l, b, hl, hq => by
    obtain ⟨h1, h2⟩ := hg b x (hl x (by simp)) hq
    obtain ⟨h3, h4⟩ := foldl_inv hr ht hg l (g b x) (fun y hy => hl y (by simp [hy])) h2
    exact ⟨ht _ _ _ h1 h3, h4⟩
def RefOk (N : Nat) (x : Int) : Prop := nn x = true → 0 ≤ x ∧ x < (N : Int)
theorem Bnd.snoc {N n : Nat} {s : List Int} (h : Bnd N s) (hn : n < N) (hs : (n : Int) ∉ s) : Bnd N (s ++ [(n : Int)]) := by
  refine ⟨?_, fun x hx => ?_⟩
  · rw [List.nodup_append]
    refine ⟨h.1, by simp, ?_⟩
    intro a ha b hb
    simp only [List.mem_singleton] at hb
    subst hb
    rintro rfl
    exact hs ha
  · rcases List.mem_append.1 hx with hx | hx
    · exact h.2 x hx
    · simp only [List.mem_singleton] at hx
      omega
theorem dw1_bnd {cs : List LC} {fr : List Int} (hl : Leads cs fr nn) : ∀ (f : Nat) (s : List Int) (r : Int), RefOk cs.length r → Bnd cs.length s → s.length ≤ (dw1 cs f s r).length ∧ Bnd cs.length (dw1 cs f s r)
  | 0, s, _, _, h => ⟨Nat.le_refl _, h⟩
  | f + 1, s, r, hr, h => by
    by_cases hc : 0 ≤ r ∧ r ∉ s
    · obtain ⟨n, rfl⟩ := Int.eq_ofNat_of_zero_le hc.1
      rw [dw1_new hc.2]
      have hn := (hr (by simp [nn])).2
      have hb := h.snoc (by omega) hc.2
      obtain ⟨h1, h2⟩ := foldl_inv (p := fun (a b : List Int) => a.length ≤ b.length) (q := Bnd cs.length) (g := dw1 cs f) (ok := RefOk cs.length) (fun _ => Nat.le_refl _) (fun _ _ _ => Nat.le_trans) (fun b x hx hb => dw1_bnd hl f b x hx hb) (refsOf cs n) _ (fun x hx ho => hl.2 _ x hx ho) hb
      exact ⟨by rw [List.length_append] at h1; omega, h2⟩
    · rw [dw1_old hc]
      exact ⟨Nat.le_refl _, h⟩
theorem dws_bnd {cs : List LC} {fr : List Int} (hl : Leads cs fr nn) (f : Nat) {s xs : List Int} (hx : ∀ x ∈ xs, RefOk cs.length x) (hb : Bnd cs.length s) : s.length ≤ (xs.foldl (dw1 cs f) s).length ∧ Bnd cs.length (xs.foldl (dw1 cs f) s) :=
  foldl_inv (p := fun (a b : List Int) => a.length ≤ b.length) (q := Bnd cs.length) (g := dw1 cs f) (ok := RefOk cs.length) (fun _ => Nat.le_refl _) (fun _ _ _ => Nat.le_trans) (fun b x hx hb => dw1_bnd hl f b x hx hb) xs _ hx hb
theorem foldl_succ {β : Type} {g : β → Int → β} {b : β} {xs : List Int} {k : Nat} (h : k < xs.length) : (xs.take (k + 1)).foldl g b = g ((xs.take k).foldl g b) xs[k] := by
  rw [List.take_succ_eq_append_getElem h, List.foldl_append]
  rfl
/-- There is fuel where there is a cell that was not met. -/
theorem fuel_pos {N f n : Nat} {s : List Int} (hb : Bnd N s) (hn : n < N) (hs : (n : Int) ∉ s) (hf : N ≤ f + s.length) : ∃ f', f = f' + 1 ∧ N ≤ f' + (s ++ [(n : Int)]).length := by
  have := (hb.snoc hn hs).len
  rw [List.length_append] at this ⊢
  simp only [List.length_cons, List.length_nil] at this ⊢
  exact ⟨f - 1, by omega, by omega⟩
def depthV (h : LH) : List Int := if validB h = true then h.roots.foldl (dw1 h.cells h.cells.length) [] else []
theorem depthV_t {h : LH} (hv : validB h = true) : depthV h = h.roots.foldl (dw1 h.cells h.cells.length) [] := if_pos hv
theorem depthV_f {h : LH} (hv : validB h = false) : depthV h = [] := if_neg (by simp [hv])
theorem depthV_len (h : LH) : (depthV h).length ≤ h.cells.length := by
  cases hv : validB h with
  | true =>
    rw [depthV_t hv]
    have hl := (valid_iff.1 hv).leads
    exact (dws_bnd hl _ (fun x hx ho => hl.1 x hx ho) (Bnd.nil _)).2.len
  | false => rw [depthV_f hv]; exact Nat.zero_le _
end Go.Proofs.Ytfcblicpfbfojaa
