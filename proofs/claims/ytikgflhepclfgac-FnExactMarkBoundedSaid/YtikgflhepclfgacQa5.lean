/-
  Walks through functions of the program and the reference, and the plain laws behind them: what one claim needs of them.
  Conditions: those that each theorem states.
-/
import Derived.ProofKit
import Derived.Deep.Slices
import Derived.Deep.Fields
import Derived.Deep.Grids
import Derived.ChangeSame
import Derived.Lib.SmallJoins
import Derived.Below
import Derived.Carry
import Derived.Test.YtikgflhepclfgacQa4
set_option linter.unusedVariables false
set_option linter.unusedSimpArgs false
namespace Go.Proofs.Ytikgflhepclfgac
/-! Bnd -/
section
open Go
/-- One reference is looked at: the marks and the stack. -/
def push1 (pl : Nat) (a : List Int × List Int) (r : Int) : List Int × List Int :=
  if 0 ≤ r ∧ r ∉ a.1 then (a.1 ++ [r], if a.2.length < pl then a.2 ++ [r] else a.2) else a
theorem push1_new {pl : Nat} {s t : List Int} {r : Int} (h0 : 0 ≤ r) (h : r ∉ s) : push1 pl (s, t) r = (s ++ [r], if t.length < pl then t ++ [r] else t) := if_pos ⟨h0, h⟩
theorem push1_old {pl : Nat} {s t : List Int} {r : Int} (h : ¬ (0 ≤ r ∧ r ∉ s)) : push1 pl (s, t) r = (s, t) := if_neg h
def pushL (pl : Nat) (s t xs : List Int) : List Int × List Int := xs.foldl (push1 pl) (s, t)
theorem pushL_succ {pl : Nat} {s t xs : List Int} {k : Nat} (h : k < xs.length) : pushL pl s t (xs.take (k + 1)) = push1 pl (pushL pl s t (xs.take k)) xs[k] := by
  unfold pushL
  rw [List.take_succ_eq_append_getElem h, List.foldl_append]
  rfl
theorem pushL_pre {pl : Nat} : ∀ (xs s t : List Int), ∃ e, (pushL pl s t xs).1 = s ++ e
  | [], s, t => ⟨[], by simp [pushL]⟩
  | r :: xs, s, t => by
    unfold pushL
    rw [List.foldl_cons]
    by_cases hr : 0 ≤ r ∧ r ∉ s
    · rw [push1_new hr.1 hr.2]
      obtain ⟨e, he⟩ := pushL_pre (pl := pl) xs (s ++ [r]) (if t.length < pl then t ++ [r] else t)
      unfold pushL at he
      exact ⟨r :: e, by rw [he]; simp⟩
    · rw [push1_old hr]
      exact pushL_pre xs s t
/-- The stack has marked cells. -/
structure Wk (N : Nat) (s t : List Int) : Prop where
  bnd : Bnd N s
  sub : ∀ x ∈ t, x ∈ s
theorem Wk.new {N n pl : Nat} {s t : List Int} (h : Wk N s t) (hn : n < N) (hs : (n : Int) ∉ s) : Wk N (s ++ [(n : Int)]) (if t.length < pl then t ++ [(n : Int)] else t) :=
  ⟨h.bnd.snoc hn hs, fun x hx => by
    split at hx
    · rcases List.mem_append.1 hx with hx | hx
      · exact List.mem_append.2 (.inl (h.sub x hx))
      · exact List.mem_append.2 (.inr hx)
    · exact List.mem_append.2 (.inl (h.sub x hx))⟩
theorem push_len {pl : Nat} {t : List Int} {r : Int} : (if t.length < pl then t ++ [r] else t).length ≤ t.length + 1 := by
  split
  · simp
  · omega
theorem pushL_ok {N pl : Nat} : ∀ (xs s t : List Int), (∀ x ∈ xs, nn x = true → 0 ≤ x ∧ x < (N : Int)) → Wk N s t →
    Wk N (pushL pl s t xs).1 (pushL pl s t xs).2 ∧ (pushL pl s t xs).2.length + s.length ≤ t.length + (pushL pl s t xs).1.length
  | [], s, t, _, h => ⟨h, Nat.le_refl _⟩
  | r :: xs, s, t, hx, h => by
    unfold pushL
    rw [List.foldl_cons]
    by_cases hr : 0 ≤ r ∧ r ∉ s
    · have hb := hx r (by simp) (nn_of hr.1)
      obtain ⟨n, rfl⟩ := Int.eq_ofNat_of_zero_le hr.1
      rw [push1_new hr.1 hr.2]
      obtain ⟨a, c⟩ := pushL_ok (pl := pl) xs (s ++ [(n : Int)]) (if t.length < pl then t ++ [(n : Int)] else t) (fun x hx2 => hx x (by simp [hx2])) (h.new (by omega) hr.2)
      have hp := push_len (pl := pl) (t := t) (r := (n : Int))
      unfold pushL at a c
      rw [List.length_append, List.length_singleton] at c
      exact ⟨a, by omega⟩
    · rw [push1_old hr]
      exact pushL_ok xs s t (fun x hx2 => hx x (by simp [hx2])) h
theorem pushL_grow {pl : Nat} : ∀ (xs s t : List Int), (∃ r ∈ xs, 0 ≤ r ∧ r ∉ s) → s.length < (pushL pl s t xs).1.length
  | [], s, t, h => by
    obtain ⟨r, hr, _⟩ := h
    cases hr
  | r :: xs, s, t, h => by
    unfold pushL
    rw [List.foldl_cons]
    by_cases hr : 0 ≤ r ∧ r ∉ s
    · rw [push1_new hr.1 hr.2]
      obtain ⟨e, he⟩ := pushL_pre (pl := pl) xs (s ++ [r]) (if t.length < pl then t ++ [r] else t)
      unfold pushL at he
      rw [he]
      simp
    · rw [push1_old hr]
      obtain ⟨x, hx, h2⟩ := h
      rcases List.mem_cons.1 hx with rfl | hx
      · exact absurd h2 hr
      · exact pushL_grow xs s t ⟨x, hx, h2⟩
/-- The stack is worked off. -/
def drainF (cs : List LC) (pl : Nat) : Nat → List Int → List Int → List Int
  | 0, s, _ => s
  | f + 1, s, wk => match wk.getLast? with
    | none => s
    | some x => drainF cs pl f (pushL pl s wk.dropLast (refsOf cs x.toNat)).1 (pushL pl s wk.dropLast (refsOf cs x.toNat)).2
theorem drainF_nil (cs : List LC) (pl f : Nat) (s : List Int) : drainF cs pl f s [] = s := by cases f <;> rfl
theorem drainF_step {cs : List LC} {pl f n : Nat} {s t : List Int} : drainF cs pl (f + 1) s (t ++ [(n : Int)]) = drainF cs pl f (pushL pl s t (refsOf cs n)).1 (pushL pl s t (refsOf cs n)).2 := by
  rw [drainF]
  simp
def drain (cs : List LC) (pl : Nat) (s : List Int) (n : Nat) : List Int := drainF cs pl (cs.length + 1) s [(n : Int)]
theorem drain_one {cs : List LC} {pl n : Nat} {s : List Int} : drain cs pl s n = drainF cs pl cs.length (pushL pl s [] (refsOf cs n)).1 (pushL pl s [] (refsOf cs n)).2 := drainF_step (t := [])
theorem drainF_pre {cs : List LC} {pl : Nat} : ∀ (f : Nat) (s wk : List Int), ∃ e, drainF cs pl f s wk = s ++ e
  | 0, s, wk => ⟨[], by simp [drainF]⟩
  | f + 1, s, wk => by
    rw [drainF]
    cases wk.getLast? with
    | none => exact ⟨[], by simp⟩
    | some x =>
      obtain ⟨e1, h1⟩ := pushL_pre (pl := pl) (refsOf cs x.toNat) s wk.dropLast
      obtain ⟨e2, h2⟩ := drainF_pre (cs := cs) (pl := pl) f (pushL pl s wk.dropLast (refsOf cs x.toNat)).1 (pushL pl s wk.dropLast (refsOf cs x.toNat)).2
      exact ⟨e1 ++ e2, by dsimp only; rw [h2, h1, List.append_assoc]⟩
theorem wk_last {N : Nat} {s wk : List Int} (h : Wk N s wk) : wk = [] ∨ ∃ (t : List Int) (n : Nat), wk = t ++ [(n : Int)] ∧ n < N ∧ (n : Int) ∈ s ∧ Wk N s t := by
  rcases List.eq_nil_or_concat wk with h0 | ⟨t, x, h0⟩
  · exact .inl h0
  · subst h0
    have hx := h.sub x (by simp)
    have hb := h.bnd.2 x hx
    refine .inr ⟨t, x.toNat, ?_, by omega, by rw [Int.toNat_of_nonneg hb.1]; exact hx, h.bnd, fun y hy => h.sub y (by simp [hy])⟩
    rw [Int.toNat_of_nonneg hb.1]
    simp
theorem drainF_ok {cs : List LC} {fr : List Int} (hl : Leads cs fr nn) {pl : Nat} : ∀ (f : Nat) (s wk : List Int), Wk cs.length s wk → Bnd cs.length (drainF cs pl f s wk)
  | 0, s, wk, h => h.bnd
  | f + 1, s, wk, h => by
    rcases wk_last h with rfl | ⟨t, n, rfl, hn, hs, ht⟩
    · rw [drainF_nil]; exact h.bnd
    · rw [drainF_step]
      exact drainF_ok hl f _ _ (pushL_ok _ s t (hl.2 n) ht).1
theorem drain_pre (cs : List LC) (pl : Nat) (s : List Int) (n : Nat) : ∃ e, drain cs pl s n = s ++ e := drainF_pre _ _ _
theorem drain_bnd {cs : List LC} {fr : List Int} (hl : Leads cs fr nn) {pl n : Nat} {s : List Int} (h : Bnd cs.length s) (hn : (n : Int) ∈ s) : Bnd cs.length (drain cs pl s n) :=
  drainF_ok hl _ _ _ ⟨h, fun x hx => by rw [List.mem_singleton] at hx; rw [hx]; exact hn⟩
/-- A marked cell refers to one that is not marked. -/
def opR (s : List Int) (r : Int) : Bool := decide (0 ≤ r) && !decide (r ∈ s)
theorem opR_t {s : List Int} {r : Int} (h : opR s r = true) : 0 ≤ r ∧ r ∉ s := by simpa [opR] using h
def openB (cs : List LC) (s : List Int) (n : Nat) : Bool := decide ((n : Int) ∈ s) && (refsOf cs n).any (opR s)
theorem openB_f1 {cs : List LC} {s : List Int} {n : Nat} (h : (n : Int) ∉ s) : openB cs s n = false := by simp [openB, h]
theorem openB_f2 {cs : List LC} {s : List Int} {n : Nat} (h : (refsOf cs n).any (opR s) = false) : openB cs s n = false := by simp [openB, h]
theorem openB_t {cs : List LC} {s : List Int} {n : Nat} {r : Int} (h : (n : Int) ∈ s) (hr : r ∈ refsOf cs n) (ho : opR s r = true) : openB cs s n = true := by
  unfold openB
  rw [Bool.and_eq_true, decide_eq_true_eq]
  exact ⟨h, List.any_eq_true.2 ⟨r, hr, ho⟩⟩
theorem openB_some {cs : List LC} {s : List Int} {n : Nat} (h : openB cs s n = true) : (n : Int) ∈ s ∧ ∃ r ∈ refsOf cs n, 0 ≤ r ∧ r ∉ s := by
  unfold openB at h
  rw [Bool.and_eq_true, decide_eq_true_eq, List.any_eq_true] at h
  obtain ⟨h1, r, hr, ho⟩ := h
  exact ⟨h1, r, hr, opR_t ho⟩
theorem drain_grow {cs : List LC} {pl n : Nat} {s : List Int} (h : openB cs s n = true) : s.length < (drain cs pl s n).length := by
  have hg := pushL_grow (pl := pl) (refsOf cs n) s [] (openB_some h).2
  rw [drain_one]
  obtain ⟨e, he⟩ := drainF_pre (cs := cs) (pl := pl) cs.length (pushL pl s [] (refsOf cs n)).1 (pushL pl s [] (refsOf cs n)).2
  rw [he, List.length_append]
  omega
/-- A further pass. -/
def pass1 (cs : List LC) (pl : Nat) (s : List Int) (k : Nat) : List Int := if openB cs s k = true then drain cs pl s k else s
def passL (cs : List LC) (pl : Nat) (s : List Int) (k : Nat) : List Int := (List.range k).foldl (pass1 cs pl) s
theorem passL_zero (cs : List LC) (pl : Nat) (s : List Int) : passL cs pl s 0 = s := rfl
theorem passL_succ (cs : List LC) (pl : Nat) (s : List Int) (k : Nat) : passL cs pl s (k + 1) = pass1 cs pl (passL cs pl s k) k := by
  unfold passL
  rw [List.range_succ, List.foldl_append]
  rfl
theorem pass1_t {cs : List LC} {pl k : Nat} {s : List Int} (h : openB cs s k = true) : pass1 cs pl s k = drain cs pl s k := if_pos h
theorem pass1_f {cs : List LC} {pl k : Nat} {s : List Int} (h : openB cs s k = false) : pass1 cs pl s k = s := if_neg (by rw [h]; decide)
theorem pass1_pre (cs : List LC) (pl : Nat) (s : List Int) (k : Nat) : ∃ e, pass1 cs pl s k = s ++ e := by
  unfold pass1
  split
  · exact drain_pre _ _ _ _
  · exact ⟨[], by simp⟩
theorem pass1_bnd {cs : List LC} {fr : List Int} (hl : Leads cs fr nn) {pl k : Nat} {s : List Int} (h : Bnd cs.length s) : Bnd cs.length (pass1 cs pl s k) := by
  unfold pass1
  split
  · rename_i ho
    exact drain_bnd hl h (openB_some ho).1
  · exact h
theorem pass_fold_pre {cs : List LC} {pl : Nat} : ∀ (l : List Nat) (s : List Int), ∃ e, l.foldl (pass1 cs pl) s = s ++ e
  | [], s => ⟨[], by simp⟩
  | k :: l, s => by
    obtain ⟨e1, h1⟩ := pass1_pre cs pl s k
    obtain ⟨e2, h2⟩ := pass_fold_pre (cs := cs) (pl := pl) l (pass1 cs pl s k)
    exact ⟨e1 ++ e2, by rw [List.foldl_cons, h2, h1, List.append_assoc]⟩
theorem pass_fold_bnd {cs : List LC} {fr : List Int} (hl : Leads cs fr nn) {pl : Nat} : ∀ (l : List Nat) (s : List Int), Bnd cs.length s → Bnd cs.length (l.foldl (pass1 cs pl) s)
  | [], _, h => h
  | _ :: l, _, h => pass_fold_bnd hl l _ (pass1_bnd hl h)
theorem pass_fold_grow {cs : List LC} {pl : Nat} : ∀ (l : List Nat) (s : List Int), (∃ k ∈ l, openB cs s k = true) → s.length < (l.foldl (pass1 cs pl) s).length
  | [], s, h => by
    obtain ⟨k, hk, _⟩ := h
    cases hk
  | k :: l, s, h => by
    rw [List.foldl_cons]
    by_cases ho : openB cs s k = true
    · have hg := drain_grow (pl := pl) ho
      obtain ⟨e, he⟩ := pass_fold_pre (cs := cs) (pl := pl) l (pass1 cs pl s k)
      rw [he, pass1_t ho, List.length_append]
      omega
    · obtain ⟨j, hj, h2⟩ := h
      rcases List.mem_cons.1 hj with rfl | hj
      · exact absurd h2 ho
      · rw [pass1_f (by simpa using ho)]
        exact pass_fold_grow l s ⟨j, hj, h2⟩
theorem pass_fold_same {cs : List LC} {pl : Nat} : ∀ (l : List Nat) (s : List Int), (∀ k ∈ l, openB cs s k = false) → l.foldl (pass1 cs pl) s = s
  | [], _, _ => rfl
  | k :: l, s, h => by
    rw [List.foldl_cons, pass1_f (h k (by simp))]
    exact pass_fold_same l s fun j hj => h j (by simp [hj])
theorem passL_pre (cs : List LC) (pl : Nat) (s : List Int) (k : Nat) : ∃ e, passL cs pl s k = s ++ e := pass_fold_pre _ _
theorem passL_bnd {cs : List LC} {fr : List Int} (hl : Leads cs fr nn) {pl k : Nat} {s : List Int} (h : Bnd cs.length s) : Bnd cs.length (passL cs pl s k) := pass_fold_bnd hl _ _ h
theorem passL_le {cs : List LC} {pl k : Nat} {s : List Int} : s.length ≤ (passL cs pl s k).length := by
  obtain ⟨e, he⟩ := passL_pre cs pl s k
  rw [he, List.length_append]
  omega
def anyK (cs : List LC) (s : List Int) (k : Nat) : Bool := (List.range k).any (openB cs s)
def anyB (cs : List LC) (s : List Int) : Bool := anyK cs s cs.length
theorem anyK_succ (cs : List LC) (s : List Int) (k : Nat) : anyK cs s (k + 1) = (anyK cs s k || openB cs s k) := by
  unfold anyK
  rw [List.range_succ, List.any_append]
  simp
theorem anyK_hit {cs : List LC} {s : List Int} {k : Nat} (hk : k < cs.length) (h : openB cs s k = true) : anyB cs s = true := List.any_eq_true.2 ⟨k, by simpa using hk, h⟩
theorem anyB_some {cs : List LC} {s : List Int} (h : anyB cs s = true) : ∃ k, k < cs.length ∧ openB cs s k = true := by
  obtain ⟨k, hk, ho⟩ := List.any_eq_true.1 h
  exact ⟨k, by simpa using hk, ho⟩
theorem anyB_none {cs : List LC} {s : List Int} (h : anyB cs s = false) {k : Nat} (hk : k < cs.length) : openB cs s k = false := by
  cases ho : openB cs s k with
  | false => rfl
  | true => rw [anyK_hit hk ho] at h; cases h
theorem pass_any {cs : List LC} {pl : Nat} {s : List Int} (h : anyB cs s = true) : s.length < (passL cs pl s cs.length).length := by
  obtain ⟨k, hk, ho⟩ := anyB_some h
  exact pass_fold_grow _ _ ⟨k, by simpa using hk, ho⟩
theorem pass_none {cs : List LC} {pl : Nat} {s : List Int} (h : anyB cs s = false) : passL cs pl s cs.length = s := pass_fold_same _ _ fun k hk => anyB_none h (by simpa using hk)
/-- A pass was needed just if there was an open cell. -/
theorem pass_needed {cs : List LC} {pl : Nat} {s : List Int} : decide (s.length < (passL cs pl s cs.length).length) = anyB cs s := by
  cases h : anyB cs s with
  | true => exact decide_eq_true (pass_any h)
  | false => rw [pass_none h]; exact decide_eq_false (Nat.lt_irrefl _)
theorem any_room {cs : List LC} {fr : List Int} (hl : Leads cs fr nn) {s : List Int} (hb : Bnd cs.length s) (h : anyB cs s = true) : s.length < cs.length := by
  obtain ⟨k, _, ho⟩ := anyB_some h
  obtain ⟨_, r, hr, h0, hs⟩ := openB_some ho
  have hx := hl.2 k r hr (nn_of h0)
  obtain ⟨n, rfl⟩ := Int.eq_ofNat_of_zero_le h0
  have hb2 := (hb.snoc (n := n) (by omega) hs).len
  rw [List.length_append] at hb2
  simp at hb2
  omega
/-- All passes: the marks, and how many passes there were. -/
def bndF (cs : List LC) (pl : Nat) : Nat → List Int → Nat → List Int × Nat
  | 0, s, p => (s, p)
  | f + 1, s, p => if anyB cs s = true then bndF cs pl f (passL cs pl s cs.length) (p + 1) else (s, p)
theorem bndF_stop {cs : List LC} {pl f p : Nat} {s : List Int} (h : anyB cs s = false) : bndF cs pl f s p = (s, p) := by
  cases f with
  | zero => rfl
  | succ f => exact if_neg (by rw [h]; decide)
theorem bndF_go {cs : List LC} {pl f p : Nat} {s : List Int} (h : anyB cs s = true) : bndF cs pl (f + 1) s p = bndF cs pl f (passL cs pl s cs.length) (p + 1) := if_pos h
theorem bndF_step {cs : List LC} {fr : List Int} (hl : Leads cs fr nn) {pl f p : Nat} {s : List Int} (hb : Bnd cs.length s) (hf : cs.length ≤ f + s.length) (h : anyB cs s = true) :
    ∃ f', bndF cs pl f s p = bndF cs pl f' (passL cs pl s cs.length) (p + 1) ∧ cs.length ≤ f' + (passL cs pl s cs.length).length := by
  have hr := any_room hl hb h
  have hg := pass_any (pl := pl) h
  cases f with
  | zero => omega
  | succ f => exact ⟨f, bndF_go h, by omega⟩
/-- The first pass: the roots. -/
def root1 (cs : List LC) (pl : Nat) (s : List Int) (r : Int) : List Int := if 0 ≤ r ∧ r ∉ s then drain cs pl (s ++ [r]) r.toNat else s
theorem root1_new {cs : List LC} {pl n : Nat} {s : List Int} (h : (n : Int) ∉ s) : root1 cs pl s (n : Int) = drain cs pl (s ++ [(n : Int)]) n := if_pos ⟨by omega, h⟩
theorem root1_old {cs : List LC} {pl : Nat} {s : List Int} {r : Int} (h : ¬ (0 ≤ r ∧ r ∉ s)) : root1 cs pl s r = s := if_neg h
def rootsL (cs : List LC) (pl : Nat) (rs : List Int) : List Int := rs.foldl (root1 cs pl) []
theorem rootsL_snoc (cs : List LC) (pl : Nat) (rs : List Int) (r : Int) : rootsL cs pl (rs ++ [r]) = root1 cs pl (rootsL cs pl rs) r := by
  unfold rootsL
  rw [List.foldl_append]
  rfl
theorem rootsL_succ {cs : List LC} {pl k : Nat} {rs : List Int} (h : k < rs.length) : rootsL cs pl (rs.take (k + 1)) = root1 cs pl (rootsL cs pl (rs.take k)) rs[k] := by
  rw [List.take_succ_eq_append_getElem h, rootsL_snoc]
theorem root1_bnd {cs : List LC} {fr : List Int} (hl : Leads cs fr nn) {pl : Nat} {s : List Int} {r : Int} (hr : nn r = true → 0 ≤ r ∧ r < (cs.length : Int)) (h : Bnd cs.length s) : Bnd cs.length (root1 cs pl s r) := by
  by_cases h1 : 0 ≤ r ∧ r ∉ s
  · have hb := hr (nn_of h1.1)
    obtain ⟨n, rfl⟩ := Int.eq_ofNat_of_zero_le h1.1
    rw [root1_new h1.2]
    exact drain_bnd hl (h.snoc (by omega) h1.2) (by simp)
  · rw [root1_old h1]; exact h
theorem roots_fold_bnd {cs : List LC} {fr : List Int} (hl : Leads cs fr nn) {pl : Nat} : ∀ (rs s : List Int), (∀ r ∈ rs, nn r = true → 0 ≤ r ∧ r < (cs.length : Int)) → Bnd cs.length s → Bnd cs.length (rs.foldl (root1 cs pl) s)
  | [], _, _, h => h
  | r :: rs, _, hr, h => roots_fold_bnd hl rs _ (fun x hx => hr x (by simp [hx])) (root1_bnd hl (hr r (by simp)) h)
theorem rootsL_bnd {cs : List LC} {fr : List Int} (hl : Leads cs fr nn) {pl k : Nat} : Bnd cs.length (rootsL cs pl (fr.take k)) := roots_fold_bnd hl _ _ (fun r hr => hl.1 r (List.mem_of_mem_take hr)) (Bnd.nil _)
def boundL (h : LH) (pl : Nat) : List Int × Nat := bndF h.cells pl h.cells.length (rootsL h.cells pl h.roots) 1
/-- Marks, and the number of passes. -/
def boundV (h : LH) (x : Int) : List Bool × Int := if validB h = true ∧ 1 ≤ x ∧ x ≤ 40 then (mB h.cells.length (boundL h x.toNat).1, (((boundL h x.toNat).2 : Nat) : Int)) else ([], -1)
theorem boundV_t {h : LH} {pl : Nat} (hv : validB h = true) (h1 : 1 ≤ pl) (h40 : pl ≤ 40) : boundV h (pl : Int) = (mB h.cells.length (boundL h pl).1, (((boundL h pl).2 : Nat) : Int)) := if_pos ⟨hv, by omega, by omega⟩
theorem boundV_f1 {h : LH} {x : Int} (hv : validB h = false) : boundV h x = ([], -1) := if_neg (fun h1 => by rw [hv] at h1; exact absurd h1.1 (by decide))
theorem boundV_f2 {h : LH} {x : Int} (hx : ¬ (1 ≤ x ∧ x ≤ 40)) : boundV h x = ([], -1) := if_neg (fun h1 => hx h1.2)
theorem boundV_len (h : LH) (x : Int) : (boundV h x).1.length ≤ h.cells.length := by
  unfold boundV
  split
  · rw [mB_len]; omega
  · simp
theorem snd_push {cs : List LC} {fr : List Int} {pl n : Nat} (hn : Rch cs fr nn n) : ∀ (xs s t : List Int), (∀ x ∈ xs, x ∈ refsOf cs n) → Snd cs fr s → Snd cs fr (pushL pl s t xs).1
  | [], _, _, _, h => h
  | r :: xs, s, t, hx, h => by
    unfold pushL
    rw [List.foldl_cons]
    by_cases hr : 0 ≤ r ∧ r ∉ s
    · rw [push1_new hr.1 hr.2]
      refine snd_push hn xs _ _ (fun x h2 => hx x (by simp [h2])) fun m hm => ?_
      rcases List.mem_append.1 hm with hm | hm
      · exact h m hm
      · rw [List.mem_singleton] at hm
        exact .step hn (by rw [hm]; exact hx r (by simp)) (by rw [hm]; exact nn_of hr.1)
    · rw [push1_old hr]
      exact snd_push hn xs s t (fun x h2 => hx x (by simp [h2])) h
theorem snd_drainF {cs : List LC} {fr : List Int} (hl : Leads cs fr nn) {pl : Nat} : ∀ (f : Nat) (s wk : List Int), Wk cs.length s wk → Snd cs fr s → Snd cs fr (drainF cs pl f s wk)
  | 0, _, _, _, h => h
  | f + 1, s, wk, hw, h => by
    rcases wk_last hw with rfl | ⟨t, n, rfl, hn, hs, ht⟩
    · rw [drainF_nil]; exact h
    · rw [drainF_step]
      exact snd_drainF hl f _ _ (pushL_ok _ s t (hl.2 n) ht).1 (snd_push (h n hs) _ _ _ (fun _ h => h) h)
theorem snd_drain {cs : List LC} {fr : List Int} (hl : Leads cs fr nn) {pl n : Nat} {s : List Int} (hb : Bnd cs.length s) (hn : (n : Int) ∈ s) (h : Snd cs fr s) : Snd cs fr (drain cs pl s n) :=
  snd_drainF hl _ _ _ ⟨hb, fun x hx => by rw [List.mem_singleton] at hx; rw [hx]; exact hn⟩ h
theorem snd_pass {cs : List LC} {fr : List Int} (hl : Leads cs fr nn) {pl : Nat} : ∀ (l : List Nat) (s : List Int), Bnd cs.length s → Snd cs fr s → Snd cs fr (l.foldl (pass1 cs pl) s)
  | [], _, _, h => h
  | k :: l, s, hb, h => by
    rw [List.foldl_cons]
    refine snd_pass hl l _ (pass1_bnd hl hb) ?_
    unfold pass1
    split
    · rename_i ho
      exact snd_drain hl hb (openB_some ho).1 h
    · exact h
theorem snd_roots {cs : List LC} {fr : List Int} (hl : Leads cs fr nn) {pl : Nat} : ∀ (rs s : List Int), (∀ r ∈ rs, r ∈ fr) → Bnd cs.length s → Snd cs fr s → Snd cs fr (rs.foldl (root1 cs pl) s)
  | [], _, _, _, h => h
  | r :: rs, s, hr, hb, h => by
    rw [List.foldl_cons]
    refine snd_roots hl rs _ (fun x hx => hr x (by simp [hx])) (root1_bnd hl (hl.1 r (hr r (by simp))) hb) ?_
    by_cases h1 : 0 ≤ r ∧ r ∉ s
    · have hx := hl.1 r (hr r (by simp)) (nn_of h1.1)
      have hr1 := hr r (by simp)
      obtain ⟨n, rfl⟩ := Int.eq_ofNat_of_zero_le h1.1
      rw [root1_new h1.2]
      refine snd_drain hl (hb.snoc (by omega) h1.2) (by simp) fun m hm => ?_
      rcases List.mem_append.1 hm with hm | hm
      · exact h m hm
      · rw [List.mem_singleton] at hm
        exact .root (by rw [hm]; exact hr1) (by rw [hm]; exact nn_of h1.1)
    · rw [root1_old h1]; exact h
theorem root1_pre (cs : List LC) (pl : Nat) (s : List Int) (r : Int) : ∃ e, root1 cs pl s r = s ++ e := by
  unfold root1
  split
  · obtain ⟨e, he⟩ := drain_pre cs pl (s ++ [r]) r.toNat
    exact ⟨[r] ++ e, by rw [he, List.append_assoc]⟩
  · exact ⟨[], by simp⟩
theorem root1_in {cs : List LC} {pl : Nat} {s : List Int} {r : Int} (h0 : 0 ≤ r) : r ∈ root1 cs pl s r := by
  by_cases h1 : r ∈ s
  · rw [root1_old (fun h => h.2 h1)]; exact h1
  · obtain ⟨n, rfl⟩ := Int.eq_ofNat_of_zero_le h0
    rw [root1_new h1]
    obtain ⟨e, he⟩ := drain_pre cs pl (s ++ [(n : Int)]) n
    rw [he]
    simp
theorem roots_fold_in {cs : List LC} {pl : Nat} : ∀ (rs s : List Int), (∀ x ∈ s, x ∈ rs.foldl (root1 cs pl) s) ∧ ∀ r ∈ rs, 0 ≤ r → r ∈ rs.foldl (root1 cs pl) s
  | [], s => ⟨fun _ h => h, fun r hr => by cases hr⟩
  | a :: rs, s => by
    rw [List.foldl_cons]
    have ih := roots_fold_in (cs := cs) (pl := pl) rs (root1 cs pl s a)
    obtain ⟨e, he⟩ := root1_pre cs pl s a
    refine ⟨fun x hx => ih.1 x (by rw [he]; simp [hx]), fun r hr h0 => ?_⟩
    rcases List.mem_cons.1 hr with rfl | hr
    · exact ih.1 _ (root1_in h0)
    · exact ih.2 r hr h0
theorem bndF_ok {cs : List LC} {fr : List Int} (hl : Leads cs fr nn) {pl : Nat} : ∀ (f : Nat) (s : List Int) (p : Nat), Bnd cs.length s → Snd cs fr s → cs.length ≤ f + s.length →
    Bnd cs.length (bndF cs pl f s p).1 ∧ Snd cs fr (bndF cs pl f s p).1 ∧ (∀ x ∈ s, x ∈ (bndF cs pl f s p).1) ∧ anyB cs (bndF cs pl f s p).1 = false ∧ p ≤ (bndF cs pl f s p).2 ∧ (bndF cs pl f s p).2 + s.length ≤ p + cs.length
  | 0, s, p, hb, hs, hf => by
    have hn : anyB cs s = false := by
      cases h : anyB cs s with
      | false => rfl
      | true => have := any_room hl hb h; omega
    have := hb.len
    exact ⟨hb, hs, fun _ h => h, hn, Nat.le_refl _, by show p + s.length ≤ _; omega⟩
  | f + 1, s, p, hb, hs, hf => by
    cases h : anyB cs s with
    | false =>
      rw [bndF_stop h]
      have := hb.len
      exact ⟨hb, hs, fun _ h => h, h, Nat.le_refl _, by show p + s.length ≤ _; omega⟩
    | true =>
      rw [bndF_go h]
      have hg := pass_any (pl := pl) h
      obtain ⟨e, he⟩ := passL_pre cs pl s cs.length
      obtain ⟨h1, h2, h3, h4, h5, h6⟩ := bndF_ok hl f (passL cs pl s cs.length) (p + 1) (passL_bnd hl hb) (snd_pass hl _ _ hb hs) (by omega)
      exact ⟨h1, h2, fun x hx => h3 x (by rw [he]; simp [hx]), h4, by omega, by omega⟩
theorem bound_ok {h : LH} (v : Valid h) (pl : Nat) : mB h.cells.length (boundL h pl).1 = reachV h ∧ 1 ≤ (boundL h pl).2 ∧ (boundL h pl).2 ≤ h.cells.length + 1 := by
  have hl := v.leads
  have hb : Bnd h.cells.length (rootsL h.cells pl h.roots) := roots_fold_bnd hl _ _ hl.1 (Bnd.nil _)
  have hs : Snd h.cells h.roots (rootsL h.cells pl h.roots) := snd_roots hl _ _ (fun _ h => h) (Bnd.nil _) (fun n hn => by cases hn)
  obtain ⟨h1, h2, h3, h4, h5, h6⟩ := bndF_ok hl (pl := pl) h.cells.length _ 1 hb hs (by omega)
  refine ⟨?_, h5, by unfold boundL; omega⟩
  rw [reachV_t (valid_iff.2 v)]
  apply mB_eq
  intro n hn
  rw [orderL_mem hl]
  refine ⟨h2 n, fun hr => ?_⟩
  induction hr with
  | root ha hb => exact h3 _ ((roots_fold_in h.roots []).2 _ ha (nn_pos hb))
  | @step m n hm ha hb ih =>
    have hmN := hm.lt hl
    have ih := ih hmN
    have hno : openB h.cells (boundL h pl).1 m = false := anyB_none h4 hmN
    by_cases hx : (n : Int) ∈ (boundL h pl).1
    · exact hx
    · rw [openB_t ih ha (by simp [opR]; exact hx)] at hno
      cases hno
theorem meet_cons {ok : Int → Bool} {s xs : List Int} {r : Int} : meet ok s (r :: xs) = meet ok (meet1 ok s r) xs := rfl
/-- The stack has each cell once, and not the one that was taken away. -/
structure Full (N : Nat) (s t : List Int) (n : Int) : Prop where
  bnd : Bnd N s
  sub : ∀ x ∈ t, x ∈ s
  nod : t.Nodup
  inn : n ∈ s
  out : n ∉ t
theorem Full.room {N m : Nat} {s t : List Int} {n : Int} (h : Full N s t n) (hm : m < N) (hs : (m : Int) ∉ s) : t.length + 2 ≤ N := by
  have h1 : Bnd N (t ++ [n] ++ [(m : Int)]) := by
    refine ⟨?_, fun x hx => ?_⟩
    · rw [List.nodup_append, List.nodup_append]
      refine ⟨⟨h.nod, by simp, fun a ha b hb => ?_⟩, by simp, fun a ha b hb => ?_⟩
      · rw [List.mem_singleton] at hb
        rw [hb]
        exact fun e => h.out (e ▸ ha)
      · rw [List.mem_singleton] at hb
        rw [hb]
        intro e
        rcases List.mem_append.1 ha with ha | ha
        · exact hs (e ▸ h.sub a ha)
        · rw [List.mem_singleton] at ha
          exact hs (e ▸ ha ▸ h.inn)
    · rcases List.mem_append.1 hx with hx | hx
      · rcases List.mem_append.1 hx with hx | hx
        · exact h.bnd.2 x (h.sub x hx)
        · rw [List.mem_singleton] at hx
          rw [hx]
          exact h.bnd.2 n h.inn
      · rw [List.mem_singleton] at hx
        omega
  have := h1.len
  simp at this
  omega
theorem Full.new {N m : Nat} {s t : List Int} {n : Int} (h : Full N s t n) (hm : m < N) (hs : (m : Int) ∉ s) : Full N (s ++ [(m : Int)]) (t ++ [(m : Int)]) n :=
  ⟨h.bnd.snoc hm hs, fun x hx => by
    rcases List.mem_append.1 hx with hx | hx
    · exact List.mem_append.2 (.inl (h.sub x hx))
    · exact List.mem_append.2 (.inr hx), by
    rw [List.nodup_append]
    refine ⟨h.nod, by simp, fun a ha b hb => ?_⟩
    rw [List.mem_singleton] at hb
    rw [hb]
    exact fun e => hs (e ▸ h.sub a ha), List.mem_append.2 (.inl h.inn), fun hx => by
    rcases List.mem_append.1 hx with hx | hx
    · exact h.out hx
    · rw [List.mem_singleton] at hx
      exact hs (hx ▸ h.inn)⟩
theorem push_full {N pl : Nat} (hp : N ≤ pl) : ∀ (xs s t : List Int) (n : Int), (∀ x ∈ xs, nn x = true → 0 ≤ x ∧ x < (N : Int)) → Full N s t n →
    pushL pl s t xs = (meet nn s xs, t ++ (meet nn s xs).drop s.length) ∧ Full N (meet nn s xs) (t ++ (meet nn s xs).drop s.length) n
  | [], s, t, n, _, h => by
    have e : (meet nn s []).drop s.length = [] := by simp [meet]
    rw [e, List.append_nil]
    exact ⟨rfl, h⟩
  | r :: xs, s, t, n, hx, h => by
    unfold pushL
    rw [List.foldl_cons, meet_cons]
    by_cases hr : 0 ≤ r ∧ r ∉ s
    · have hb := hx r (by simp) (nn_of hr.1)
      obtain ⟨m, rfl⟩ := Int.eq_ofNat_of_zero_le hr.1
      have hroom := h.room (m := m) (by omega) hr.2
      rw [push1_new hr.1 hr.2, if_pos (by omega), meet1_new (nn_of hr.1) hr.2]
      have hf := h.new (m := m) (by omega) hr.2
      obtain ⟨h1, h2⟩ := push_full hp xs (s ++ [(m : Int)]) (t ++ [(m : Int)]) n (fun x h2 => hx x (by simp [h2])) hf
      unfold pushL at h1
      obtain ⟨e, he⟩ := meet_pre nn xs (s ++ [(m : Int)])
      have e1 : (meet nn (s ++ [(m : Int)]) xs).drop (s ++ [(m : Int)]).length = e := by rw [he, List.drop_left]
      have e2 : (meet nn (s ++ [(m : Int)]) xs).drop s.length = (m : Int) :: e := by rw [he, List.append_assoc, List.drop_left]; rfl
      rw [e1] at h1 h2
      rw [e2]
      rw [List.append_assoc] at h1 h2
      exact ⟨h1, h2⟩
    · have hm : meet1 nn s r = s := if_neg (fun h9 => hr ⟨nn_pos h9.1, h9.2⟩)
      rw [push1_old hr, hm]
      exact push_full hp xs s t n (fun x h2 => hx x (by simp [h2])) h
theorem dfs_drain {cs : List LC} {fr : List Int} (hl : ∀ n, ∀ x ∈ refsOf cs n, nn x = true → 0 ≤ x ∧ x < (cs.length : Int)) {pl : Nat} (hp : cs.length ≤ pl) : ∀ (f : Nat) (s wk : List Int), Bnd cs.length s → wk.Nodup → Dfs cs fr nn s wk → wk.length + cs.length ≤ f + s.length →
    Dfs cs fr nn (drainF cs pl f s wk) []
  | f, s, wk, hb, hn, h, hf => by
    rcases wk_last ⟨hb, h.sub⟩ with rfl | ⟨t, n, rfl, hnN, hs, ht⟩
    · rw [drainF_nil]; exact h
    · cases f with
      | zero =>
        have := hb.len
        rw [List.length_append] at hf
        simp at hf
        omega
      | succ f =>
        rw [drainF_step]
        rw [List.nodup_append] at hn
        have hF : Full cs.length s t (n : Int) := ⟨hb, ht.sub, hn.1, hs, fun h9 => hn.2.2 _ h9 _ (by simp) rfl⟩
        obtain ⟨h1, h2⟩ := push_full hp (refsOf cs n) s t (n : Int) (hl n) hF
        rw [h1]
        obtain ⟨e, he⟩ := meet_pre nn (refsOf cs n) s
        have e1 : (meet nn s (refsOf cs n)).drop s.length = e := by rw [he, List.drop_left]
        refine dfs_drain hl hp f _ _ h2.bnd h2.nod h.next ?_
        rw [List.length_append] at hf
        rw [List.length_append, e1, he, List.length_append]
        simp at hf
        omega
theorem Rch.more {cs : List LC} {fr fr' : List Int} {ok : Int → Bool} (hs : ∀ x ∈ fr, x ∈ fr') {n : Nat} (h : Rch cs fr ok n) : Rch cs fr' ok n := by
  induction h with
  | root h1 h2 => exact .root (hs _ h1) h2
  | step _ h1 h2 ih => exact .step ih h1 h2
theorem dfs_root {cs : List LC} {fr : List Int} (hl : ∀ n, ∀ x ∈ refsOf cs n, nn x = true → 0 ≤ x ∧ x < (cs.length : Int)) {pl : Nat} (hp : cs.length ≤ pl) {s : List Int} {r : Int} (hr : nn r = true → 0 ≤ r ∧ r < (cs.length : Int)) (hb : Bnd cs.length s) (h : Dfs cs fr nn s []) : Dfs cs (fr ++ [r]) nn (root1 cs pl s r) [] := by
  by_cases h1 : 0 ≤ r ∧ r ∉ s
  · have hx := hr (nn_of h1.1)
    obtain ⟨n, rfl⟩ := Int.eq_ofNat_of_zero_le h1.1
    rw [root1_new h1.2]
    have hb2 := hb.snoc (n := n) (by omega) h1.2
    refine dfs_drain hl hp _ _ _ hb2 (by simp) ?_ (by rw [List.length_append]; simp; omega)
    refine ⟨hb2.1, fun x hx => nn_of (hb2.2 x hx).1, fun x hx ho => ?_, fun x hx => ?_, fun m hm => ?_, fun m hm => ?_⟩
    · rcases List.mem_append.1 hx with hx | hx
      · exact List.mem_append.2 (.inl (h.roots x hx ho))
      · exact List.mem_append.2 (.inr hx)
    · exact List.mem_append.2 (.inr hx)
    · rcases List.mem_append.1 hm with hm | hm
      · rcases h.clos m hm with hw | hw
        · cases hw
        · exact .inr fun k hk ho => List.mem_append.2 (.inl (hw k hk ho))
      · exact .inl hm
    · rcases List.mem_append.1 hm with hm | hm
      · exact (h.sound m hm).more (fun x hx => List.mem_append.2 (.inl hx))
      · exact .root (List.mem_append.2 (.inr hm)) (nn_nat m)
  · rw [root1_old h1]
    refine ⟨h.nodup, h.okay, fun x hx ho => ?_, h.sub, h.clos, fun m hm => (h.sound m hm).more (fun x hx => List.mem_append.2 (.inl hx))⟩
    rcases List.mem_append.1 hx with hx | hx
    · exact h.roots x hx ho
    · rw [List.mem_singleton] at hx
      rw [hx] at ho ⊢
      by_cases hs : r ∈ s
      · exact hs
      · exact absurd ⟨nn_pos ho, hs⟩ h1
theorem dfs_roots {cs : List LC} (hl : ∀ n, ∀ x ∈ refsOf cs n, nn x = true → 0 ≤ x ∧ x < (cs.length : Int)) {pl : Nat} (hp : cs.length ≤ pl) : ∀ (k : Nat) (fr : List Int), (∀ x ∈ fr, nn x = true → 0 ≤ x ∧ x < (cs.length : Int)) → fr.length = k → Dfs cs fr nn (rootsL cs pl fr) []
  | 0, fr, _, hk => by
    have : fr = [] := List.eq_nil_of_length_eq_zero hk
    subst this
    exact Dfs.start cs [] nn
  | k + 1, fr, hx, hk => by
    rcases List.eq_nil_or_concat fr with rfl | ⟨t, r, h0⟩
    · simp at hk
    · have h0 : fr = t ++ [r] := by rw [h0]; simp
      subst h0
      have ht : t.length = k := by rw [List.length_append] at hk; simp at hk; exact hk
      have hx1 : ∀ x ∈ t, nn x = true → 0 ≤ x ∧ x < (cs.length : Int) := fun x h => hx x (by simp [h])
      have ih := dfs_roots hl hp k t hx1 ht
      rw [rootsL_snoc]
      exact dfs_root hl hp (hx r (by simp)) ⟨ih.nodup, fun x h => by
        have hb := roots_fold_bnd (cs := cs) (fr := t) ⟨hx1, hl⟩ (pl := pl) t [] hx1 (Bnd.nil _)
        exact hb.2 x h⟩ ih
theorem bound_one {h : LH} (v : Valid h) {pl : Nat} (hp : h.cells.length ≤ pl) : (boundL h pl).2 = 1 := by
  have hl := v.leads
  have hd := dfs_roots hl.2 hp h.roots.length h.roots hl.1 rfl
  have hn : anyB h.cells (rootsL h.cells pl h.roots) = false := by
    cases ha : anyB h.cells (rootsL h.cells pl h.roots) with
    | false => rfl
    | true =>
      obtain ⟨k, hk, ho⟩ := anyB_some ha
      obtain ⟨h1, r, hr, h0, hs⟩ := openB_some ho
      obtain ⟨n, rfl⟩ := Int.eq_ofNat_of_zero_le h0
      rcases hd.clos k h1 with hw | hw
      · cases hw
      · exact absurd (hw n hr (nn_nat n)) hs
  unfold boundL
  rw [bndF_stop hn]
theorem boundV_neg {h : LH} {x : Int} (hn : (boundV h x).2 < 0) : boundV h x = ([], -1) := by
  unfold boundV at *
  split at hn
  · exact absurd hn (by show ¬ (((boundL h x.toNat).2 : Nat) : Int) < 0; omega)
  · rename_i hx
    rw [if_neg hx]
theorem boundV_pos {h : LH} {x : Int} (hn : ¬ (boundV h x).2 < 0) : Valid h ∧ ∃ pl : Nat, x = (pl : Int) ∧ 1 ≤ pl ∧ pl ≤ 40 ∧ boundV h x = (mB h.cells.length (boundL h pl).1, (((boundL h pl).2 : Nat) : Int)) := by
  unfold boundV at *
  split at hn
  · rename_i hx
    rw [if_pos hx]
    exact ⟨valid_iff.1 hx.1, x.toNat, by omega, by omega, by omega, rfl⟩
  · exact absurd (show (-1 : Int) < 0 by decide) hn
theorem bits_list {m N : Nat} {s : List Int} (h : ∀ n : Nat, m.testBit n = decide ((n : Int) ∈ s)) : listB m N = mB N s := by
  unfold listB mB
  apply List.map_congr_left
  intro i _
  exact h i
end
/-! Fre -/
section
open Go Go.RowKit
def flagAt (w : World) (b i : Nat) : Bool := match w.cell? ⟨b, i, none⟩ with
  | some (.bool x) => x
  | _ => false
/-- How many of the first N flags of a block are set. -/
def flagsW (w : World) (b N : Nat) : Nat := cntP (flagAt w b) N
theorem flagsW_eq {w : World} {b N : Nat} {e : TypeId} {s : List Int} (hB : Blk w b e (bools (mB N s)).toArray) (h : Bnd N s) : flagsW w b N = s.length := by
  rw [← cnt N s h]
  unfold flagsW
  rw [show ((List.range N).filter (fun (i : Nat) => decide ((i : Int) ∈ s))).length = cntP (fun i => decide ((i : Int) ∈ s)) N from List.countP_eq_length_filter.symm]
  apply cntP_congr
  intro i hi
  unfold flagAt
  have h3 := hB.at (mB_at (s := s) hi)
  rw [h3]
end
/-! WalkMb -/
section
open Go Go.RowKit
attribute [local irreducible] wpList wpAnyH Code.wp dOp
def natI (w : World) (b i : Nat) : Nat := match w.cell? ⟨b, i, none⟩ with
  | some (.int _ n) => n.toNat
  | some (.slice _ n _) => n
  | _ => 0
theorem natI_int {w : World} {b i m : Nat} {e : TypeId} {k : IntKind} {arr : Array Value} (h : Blk w b e arr) (hi : arr[i]? = some (.int k (m : Int))) : natI w b i = m := by
  unfold natI
  rw [h.at hi]
  simp
theorem natI_len {w : World} {b i q cap : Nat} {e : TypeId} {A : Option Addr} {arr : Array Value} (h : Blk w b e arr) (hi : arr[i]? = some (.slice A q cap)) : natI w b i = q := by
  unfold natI
  rw [h.at hi]
theorem ints_init (t : List Int) (x : Int) : (ints (t ++ [x])).take (t.length * 1) = ints t := by
  rw [ints_take, Nat.mul_one, List.take_left]
set_option maxHeartbeats 1000000 in
set_option maxRecDepth 20000 in
theorem spec_l12Drain_c (A B : Option Addr) (h : LH) (c d n pl bm lo : Nat) (s : List Int) (w : World) (hA : RC (fun k => k < lo) w A h.cells) (hz : hsize h ≤ 1048576) (hl : Leads h.cells h.roots nn) (hN : h.cells.length ≤ 64) (Bm : Blk w bm 4 (bools (mB h.cells.length s)).toArray) (hb : Bnd h.cells.length s) (hn : (n : Int) ∈ s) (hlo : lo ≤ bm) (hpl : pl ≤ 40) :
    Calls Try.prog 53 #[.agg #[.slice A h.cells.length c, .slice B h.roots.length d], .int .i64 (n : Int), .int .i64 (pl : Int), .slice (some ⟨bm, 0, none⟩) h.cells.length h.cells.length] w (Ret fun _v w' => Blk w' bm 4 (bools (mB h.cells.length (drain h.cells pl s n))).toArray ∧ Mod (fun i => i = bm) w w') := by
 have hz1 := hsize_cells h
 have hz2 := hsize_roots h
 have hz3 : ∀ k (hk : k < h.cells.length), h.cells[k].refs.length ≤ hsize h := fun k hk => hsize_refs h hk
 have lbm := Bm.lt
 have hs0 := List.length_pos_of_mem hn
 refine enter Try.func53 rfl Try.ntmps53 (L := [_,_,_,_,_,_,_,_,_,_,_,_,_,_,_,_,_,_,_,_,_,_,_,_,_,_,_,_,_,_,_,_,_,_,_,_,_,_,_,_,_,_,_,_,_,_,_,_,_,_,_,_,_,_,_,_,_,_,_,_,_,_,_]) rfl ?_
 have G := Mod.refl (fun i => i = bm) w
 refine wp_seq_k fun K1 hK1 => ?_
 refine Sb 63 rfl ?_  -- 0
 refine S_box (cs := [_, _]) rfl rfl ?_
 intro b1 w1 fb1 g1 B1
 have lb1 := B1.lt
 replace hA := hA.grow g1
 replace G := G.grow g1
 replace Bm := Bm.grow g1
 have zg1 := g1.size
 refine S_nl rfl rfl ?_
 refine th_n (hK1 _ _ ?_)
 clear hK1 K1
 refine wp_seq_k fun K2 hK2 => ?_
 refine Sb 63 rfl ?_  -- 1
 refine S_val (Y_move rfl) ?_
 refine S_bs1 (cs := [_]) Try.underlying23 zr3 sz3 rfl rfl rfl ?_
 intro b2 w2 fb2 g2 B2
 have lb2 := B2.lt
 replace hA := hA.grow g2
 replace G := G.grow g2
 replace Bm := Bm.grow g2
 replace B1 := B1.grow g2
 have zg2 := g2.size
 refine S_val (Y_assign rfl) ?_
 refine S_nl rfl rfl ?_
 refine th_n (hK2 _ _ ?_)
 clear hK2 K2
 refine wp_block ?_
 have O1 : OW (fun i => b1 < i) w2 3 1 (some ⟨b2, 0, none⟩) 1 1 (ints [(n : Int)]) := OW.of_blk B2 rfl (by decide) (by first | omega | (dsimp only; omega))
 go_loopw [8] (fun u8 wr => (∃ (q cap f : Nat) (A1 : Option Addr) (s1 wk : List Int), u8 = .slice A1 q cap ∧ q = wk.length ∧ Wk h.cells.length s1 wk ∧ wk.length ≤ s1.length ∧ wk.length + h.cells.length ≤ f + s1.length ∧ drainF h.cells pl f s1 wk = drain h.cells pl s n ∧ OW (fun i => b1 < i) wr 3 1 A1 q cap (ints wk) ∧ Blk wr bm 4 (bools (mB h.cells.length s1)).toArray) ∧ Mod (fun i => i = bm ∨ b1 < i) w2 wr) (fun u8 wr => (h.cells.length - flagsW wr bm h.cells.length) + slen u8)  -- L1
 case atStart =>
  refine ⟨?_, Mod.refl _ _⟩
  exact ⟨1, 1, h.cells.length + 1, _, s, [(n : Int)], rfl, rfl, ⟨hb, fun x hx => by rw [List.mem_singleton] at hx; rw [hx]; exact hn⟩, by simp; omega, by simp; omega, rfl, O1, Bm⟩
 case round =>
  obtain ⟨w3, rfl⟩ : ∃ x : World, x = wr := ⟨_, rfl⟩
  obtain ⟨hrel, g3⟩ := hrel
  clear Bm
  clear O1
  replace G := Mod.trans' G g3 (fun _ h _ => h) (fun i h hl => by first | exact h | omega | (dsimp only at h ⊢; omega))
  replace hA := hA.md g3
  replace B1 := B1.md g3
  have zg3 := g3.size
  obtain ⟨q, cap, f, A1, s1, wk, rfl, hq, hwk, hws, hf, hD, O1, Bm⟩ := hrel
  have hfl := flagsW_eq Bm hwk.bnd
  have hcap := O1.cap
  have hsl := hwk.bnd.len
  have GL3 := g3
  refine wp_seq_k fun K3 hK3 => ?_
  refine wp_seq_k fun K4 hK4 => ?_
  refine Sb 63 rfl ?_  -- 2
  refine S_val (Y_move rfl) ?_
  refine S_val (Y_len Try.underlying23 rfl) ?_
  refine S_val (Y_gtr rfl rfl) ?_
  refine S_nl rfl rfl ?_
  refine th_n (hK4 _ _ ?_)
  clear hK4 K4
  refine S_if rfl (fun hb1 => ?_) (fun hb1 => ?_)  -- c1
  · -- c1T
   replace hb1 := nb_tt hb1
   have hq0 : wk ≠ [] := fun e => by rw [e] at hq; simp at hq; omega
   obtain ⟨t, n1, rfl, hn1N, hn1s, hwt⟩ := (wk_last hwk).resolve_left hq0
   have hq1 : q = t.length + 1 := by rw [hq]; simp
   subst hq1
   clear hq
   rw [List.length_append, List.length_singleton] at hf hws
   have hz4 := hz3 n1 hn1N
   obtain ⟨f1, rfl⟩ : ∃ x, f = x + 1 := ⟨f - 1, by omega⟩
   rw [drainF_step, refsOf_at hn1N] at hD
   have hkk : t.length < (t ++ [(n1 : Int)]).length := by simp
   have hlast : (t ++ [(n1 : Int)])[t.length] = (n1 : Int) := by simp
   refine wp_skip ?_
   refine th_n (hK3 _ _ ?_)
   clear hK3 K3
   refine wp_block ?_
   refine wp_seq_k fun K5 hK5 => ?_
   refine D_start 12 63 (fun w => Mod (No) w) follows rfl rfl ?_  -- d1 r3
   intro w4 g4
   replace hA := hA.grow g4
   replace O1 := O1.grow g4
   replace G := G.grow g4
   replace GL3 := GL3.grow g4
   replace B1 := B1.grow g4
   replace Bm := Bm.grow g4
   have zg4 := g4.size
   have GS4 := Mod.refl (No) w4
   obtain ⟨g2, o2, rfl, hp2, hc2⟩ := O1.r1.int hkk
   rw [hlast] at hc2
   obtain ⟨g3, o3, E3, d3, rfl, hp3, cc3, hE3⟩ := hA.cell hn1N
   obtain ⟨sz, hsz⟩ : ∃ x, x = w4.heap.size := ⟨_, rfl⟩
   replace O1 : OW (fun i => b1 < i ∧ i < sz) w4 3 1 (some ⟨g2, o2, none⟩) t.length cap (ints t) := by rw [← ints_init t (n1 : Int), hsz]; exact (O1.pop (by omega)).lt
   have B1d4 := B1
   refine Dq (i := 0) rfl GS4 (fun _ _ => Y_field Try.underlying32 rfl fz32_0 (by decide) rfl) ?_
   refine Dq (i := 1) rfl GS4 (fun _ hs => Y_load Try.underlying30 rfl rfl (hs.cell0 (B1.at (by rfl)))) ?_
   refine Dq (i := 2) rfl GS4 (fun _ _ => Y_move rfl) ?_
   refine Dq (i := 3) rfl GS4 (fun _ _ => Y_move rfl) ?_
   refine Dq (i := 4) rfl GS4 (fun _ _ => Y_len Try.underlying23 rfl) ?_
   refine Dq (i := 5) rfl GS4 (fun _ _ => Y_sub (c := ((t.length : Nat) : Int)) rfl rfl (by omega) (by omega) (by omega)) ?_
   refine Dq (i := 6) rfl GS4 (fun _ _ => Y_index Try.underlying23 sz3 rfl rfl (by first | assumption | omega)) ?_
   refine Dq (i := 7) rfl GS4 (fun _ hs => Y_load Try.underlying3 rfl rfl (by first | exact hs.cell0 (by assumption) | exact hs.cell0 (cc3.at (by rfl)) | exact hs.cell0 (B1.at (by rfl)) | exact hs.cell0 (Bm.at (by rfl)))) ?_
   refine Dq (i := 8) rfl GS4 (fun _ _ => Y_index Try.underlying30 sz63 rfl rfl (by first | assumption | omega)) ?_
   refine Dq (i := 9) rfl GS4 (fun _ hs => Y_loadS Try.underlying63 rfl sz63 rfl (by first | exact hs.cells0 (by assumption) | exact hs.cells0 (B1.row (by rfl)) | exact hs.cells0 (Bm.row (by rfl)))) ?_
   refine D_1 (i := 10) (by kernel_rfl) ?_
   refine E_alloc (cs := [_, _, _]) rfl zr63 rfl (fun b5 w5 fb5 g5 B5 => ⟨GS4.grow g5, ?_⟩)
   have lb5 := B5.lt
   replace hA := hA.grow g5
   replace O1 := O1.grow g5
   replace hE3 := hE3.grow g5
   replace G := G.grow g5
   replace GL3 := GL3.grow g5
   replace GS4 := GS4.grow g5
   replace B1 := B1.grow g5
   replace Bm := Bm.grow g5
   replace cc3 := cc3.grow g5
   have zg5 := g5.size
   refine D_1 (i := 11) (by kernel_rfl) ?_
   refine E_stM (pre := []) (old := [_, _, _]) (post := []) (vs := [_, _, _]) (i := 11) rfl sz63 rfl rfl rfl (by first | rfl | assumption) B5 rfl rfl ?_
   intro w6 m6 X6
   replace B5 := Blk.eq (ys := [_, _, _]) X6 rfl
   clear X6
   replace G := Mod.trans' G m6 (fun _ h _ => h) (fun i h hl => by first | exact h | omega | (dsimp only at h ⊢; omega))
   first | replace GL3 := GL3.abv m6 | clear GL3
   replace GS4 := GS4.abv m6
   replace hA := hA.md m6
   replace O1 := O1.md m6
   replace hE3 := hE3.md m6
   replace B1 := B1.md m6
   replace Bm := Bm.md m6
   clear cc3
   have zm6 := m6.size
   refine ⟨GS4, ?_⟩
   refine D_en (by kernel_rfl) rfl rfl ?_
   refine th_n (hK5 _ _ ?_)
   clear hK5 K5
   refine wp_seq_k fun K6 hK6 => ?_
   refine Sb 63 rfl ?_  -- 4
   refine S_val (Y_move rfl) ?_
   refine S_val (Y_move rfl) ?_
   refine S_val (Y_len Try.underlying23 rfl) ?_
   refine S_val (Y_sub (c := ((t.length : Nat) : Int)) rfl rfl (by omega) (by omega) (by omega)) ?_
   refine S_val (Y_sliceH Try.underlying23 sz3 rfl rfl (by omega)) ?_
   refine S_val (Y_assign rfl) ?_
   refine S_nl rfl rfl ?_
   refine th_n (hK6 _ _ ?_)
   clear hK6 K6
   refine wp_seq_k fun K7 hK7 => ?_
   refine Sb 63 rfl ?_  -- 5
   refine S_val (Y_assign rfl) ?_
   refine S_nl rfl rfl ?_
   refine th_n (hK7 _ _ ?_)
   clear hK7 K7
   refine wp_block ?_
   replace O1 := O1.weak (Pr' := fun i => b1 < i ∧ i ≠ b5) (fun i hi => by first | omega | (dsimp only at hi ⊢; omega))
   go_loopw [8, 10] (fun u8 u10 wr => (∃ (j q cap : Nat) (A1 : Option Addr) (s2 t2 : List Int), u10 = .int .i64 j ∧ u8 = .slice A1 q cap ∧ j ≤ h.cells[n1].refs.length ∧ (s2, t2) = pushL pl s1 t (h.cells[n1].refs.take j) ∧ q = t2.length ∧ OW (fun i => b1 < i ∧ i ≠ b5) wr 3 1 A1 q cap (ints t2) ∧ Blk wr bm 4 (bools (mB h.cells.length s2)).toArray) ∧ Mod (fun i => i = bm ∨ (b1 < i ∧ i ≠ b5)) w6 wr) (fun u8 u10 wr => h.cells[n1].refs.length - (intOf u10).toNat)  -- L2
   case atStart =>
    refine ⟨?_, Mod.refl _ _⟩
    exact ⟨0, _, _, _, s1, t, rfl, rfl, by omega, rfl, rfl, O1, Bm⟩
   case round =>
    obtain ⟨w7, rfl⟩ : ∃ x : World, x = wr := ⟨_, rfl⟩
    obtain ⟨hrel, g7⟩ := hrel
    clear Bm
    clear O1
    replace G := Mod.trans' G g7 (fun _ h _ => h) (fun i h hl => by first | exact h | omega | (dsimp only at h ⊢; omega))
    replace GL3 := GL3.trn g7
    replace hA := hA.md g7
    replace hE3 := hE3.md g7
    replace B1 := B1.md g7
    replace B5 := B5.md g7
    have zg7 := g7.size
    obtain ⟨j, q2, cap2, A2, s2, t2, rfl, rfl, hj, hst, hq2, O1, Bm⟩ := hrel
    have hok := pushL_ok (pl := pl) (h.cells[n1].refs.take j) s1 t (fun x hx ho => hl.refs hn1N x (List.mem_of_mem_take hx) ho) hwt
    rw [← hst] at hok
    dsimp only at hok
    obtain ⟨hwk2, hln2⟩ := hok
    have hsl2 := hwk2.bnd.len
    have hcap2 := O1.cap
    have GL7 := g7
    refine wp_seq_k fun K8 hK8 => ?_
    refine wp_seq_k fun K9 hK9 => ?_
    refine Sb 63 rfl ?_  -- 6
    refine S_val (Y_move rfl) ?_
    refine S_val (Y_field Try.underlying63 rfl fz63_2 (by decide) rfl) ?_
    refine S_val (Y_load Try.underlying23 rfl rfl (B5.at (by rfl))) ?_  -- l4
    refine S_val (Y_len Try.underlying23 rfl) ?_
    refine S_val (Y_lss rfl rfl) ?_
    refine S_nl rfl rfl ?_
    refine th_n (hK9 _ _ ?_)
    clear hK9 K9
    refine S_if rfl (fun hb2 => ?_) (fun hb2 => ?_)  -- c2
    · -- c2T
     replace hb2 := nb_tt hb2
     have hj1 : j < h.cells[n1].refs.length := by omega
     obtain ⟨g4, o4, rfl, hp4, hc4⟩ := hE3.int hj1
     have hps := pushL_succ (pl := pl) (s := s1) (t := t) hj1
     rw [← hst] at hps
     refine wp_skip ?_
     refine th_n (hK8 _ _ ?_)
     clear hK8 K8
     refine wp_seq_k fun K10 hK10 => ?_
     refine wp_block ?_
     refine wp_seq_k fun K11 hK11 => ?_
     refine Sb 63 rfl ?_  -- 8
     refine S_val (Y_field Try.underlying63 rfl fz63_2 (by decide) rfl) ?_
     refine S_val (Y_load Try.underlying23 rfl rfl (B5.at (by rfl))) ?_  -- l5
     refine S_val (Y_move rfl) ?_
     refine S_val (Y_index Try.underlying23 sz3 rfl rfl (by first | assumption | omega)) ?_
     refine S_val (Y_load Try.underlying3 rfl rfl (by first | assumption | exact B1.at (by rfl) | exact B5.at (by rfl) | exact Bm.at (by rfl))) ?_  -- l6
     refine S_val (Y_assign rfl) ?_
     refine S_nl rfl rfl ?_
     refine th_n (hK11 _ _ ?_)
     clear hK11 K11
     refine wp_seq_k fun K12 hK12 => ?_
     refine wp_seq_k fun K13 hK13 => ?_
     refine Sb 63 rfl ?_  -- 9
     refine S_val (Y_move rfl) ?_
     refine S_val (Y_lss rfl rfl) ?_
     refine S_val (Y_move rfl) ?_
     refine S_g 46 rfl (fun hb3 => ?_) (fun hb3 => ?_)  -- g1
     · -- g1T
      replace hb3 := nb_tt hb3
      rw [push1_old (fun h9 => by omega)] at hps
      refine S_off rfl rfl ?_
      refine S_off rfl rfl ?_
      refine S_off rfl rfl ?_
      refine S_off rfl rfl ?_
      refine S_val (Y_pickT rfl rfl) ?_
      refine S_nl rfl rfl ?_
      refine th_n (hK13 _ _ ?_)
      clear hK13 K13
      refine S_ifT rfl ?_
      refine wp_exit ?_
      refine th_x ?_
      refine ib_e ?_
      refine th_n (hK10 _ _ ?_)
      clear hK12 K12 hK10 K10
      refine Sb 63 rfl ?_  -- 7
      refine S_val (Y_move rfl) ?_
      refine S_val (Y_inc rfl rfl (by omega)) ?_
      refine S_val (Y_assign rfl) ?_
      refine S_nl rfl rfl ?_
      refine th_n ?_
      go_roundw  -- e1 of L2
      case rel =>
       refine ⟨?_, GL7⟩
       first | exact ⟨j + 1, _, _, _, _, _, rfl, rfl, by omega, hps.symm, by first | exact hq2 | (rw [List.length_append, hq2]; rfl), O1, Bm⟩
      case measure =>
       exact dec_nat (by omega)
     · -- g1F
      replace hb3 := nb_tf hb3
      obtain ⟨m, hm, hmN⟩ := ref_at (hl.refs hn1N) hj1 (by omega)
      rw [hm] at hps
      rw [hm]
      have hcm : w7.cell? ⟨bm, 0 + m * 1, none⟩ = some (.bool (decide ((m : Int) ∈ s2))) := by simpa using Bm.at (mB_at hmN)
      refine S_on rfl rfl ?_
      refine S_val (Y_move rfl) ?_
      refine S_on rfl rfl ?_
      refine S_val (Y_move rfl) ?_
      refine S_on rfl rfl ?_
      refine S_val (Y_index Try.underlying27 sz4 rfl rfl (by first | assumption | omega)) ?_
      refine S_on rfl rfl ?_
      refine S_val (Y_load Try.underlying4 rfl rfl (by first | assumption | exact B1.at (by rfl) | exact B5.at (by rfl) | exact Bm.at (by rfl))) ?_  -- l7
      refine S_val (Y_pickF rfl rfl) ?_
      refine S_nl rfl rfl ?_
      refine th_n (hK13 _ _ ?_)
      clear hK13 K13
      refine S_if rfl (fun hb4 => ?_) (fun hb4 => ?_)  -- c3
      · -- c3T
       first | with_reducible (replace hb4 := nb_nt hb4) | with_reducible (replace hb4 := nb_tt hb4) | with_reducible (replace hb4 := nb_bt hb4) | skip
       rw [push1_old (fun h9 => h9.2 hb4)] at hps
       refine wp_exit ?_
       refine th_x ?_
       refine ib_e ?_
       refine th_n (hK10 _ _ ?_)
       clear hK12 K12 hK10 K10
       refine Sb 63 rfl ?_  -- 7
       refine S_val (Y_move rfl) ?_
       refine S_val (Y_inc rfl rfl (by omega)) ?_
       refine S_val (Y_assign rfl) ?_
       refine S_nl rfl rfl ?_
       refine th_n ?_
       go_roundw  -- e2 of L2
       case rel =>
        refine ⟨?_, GL7⟩
        first | exact ⟨j + 1, _, _, _, _, _, rfl, rfl, by omega, hps.symm, by first | exact hq2 | (rw [List.length_append, hq2]; rfl), O1, Bm⟩
       case measure =>
        exact dec_nat (by omega)
      · -- c3F
       first | with_reducible (replace hb4 := nb_nf hb4) | with_reducible (replace hb4 := nb_tf hb4) | with_reducible (replace hb4 := nb_bf hb4) | skip
       rw [push1_new (by omega) hb4] at hps
       refine wp_skip ?_
       refine th_n (hK12 _ _ ?_)
       clear hK12 K12
       refine wp_seq_k fun K14 hK14 => ?_
       refine Sb 63 rfl ?_  -- 10
       refine S_val (Y_move rfl) ?_
       refine S_val (Y_move rfl) ?_
       refine S_val (Y_index Try.underlying27 sz4 rfl rfl (by first | assumption | omega)) ?_
       refine S_stM (pre := (bools (mB h.cells.length s2)).take m) (old := [.bool (decide ((m : Int) ∈ s2))]) (post := (bools (mB h.cells.length s2)).drop (m + 1)) (vs := [_]) sz4 rfl rfl rfl rfl (by rw [← mB_split (N := h.cells.length) (n := m) (s := s2) hmN]; exact Bm) (by rw [List.length_take, bools_len, mB_len]; omega) rfl ?_
       intro w8 m8 X8
       replace Bm := Blk.eq X8 (mB_set hmN)
       clear X8
       replace G := Mod.trans' G m8 (fun _ h _ => h) (fun i h hl => by first | exact h | omega | (dsimp only at h ⊢; omega))
       replace GL3 := GL3.trn m8
       replace GL7 := GL7.trn m8
       replace hA := hA.md m8
       replace hE3 := hE3.md m8
       replace O1 := O1.md m8
       replace B1 := B1.md m8
       replace B5 := B5.md m8
       have zm8 := m8.size
       refine S_nl rfl rfl ?_
       refine th_n (hK14 _ _ ?_)
       clear hK14 K14
       refine wp_seq_k fun K15 hK15 => ?_
       refine Sb 63 rfl ?_  -- 11
       refine S_val (Y_move rfl) ?_
       refine S_val (Y_len Try.underlying23 rfl) ?_
       refine S_val (Y_move rfl) ?_
       refine S_val (Y_lss rfl rfl) ?_
       refine S_nl rfl rfl ?_
       refine th_n (hK15 _ _ ?_)
       clear hK15 K15
       refine S_if rfl (fun hb5 => ?_) (fun hb5 => ?_)  -- c4
       · -- c4T
        replace hb5 := nb_tt hb5
        rw [if_pos (by omega)] at hps
        refine Sb 63 rfl ?_  -- 12
        refine S_val (Y_move rfl) ?_
        refine S_val (Y_move rfl) ?_
        refine S_bs1 (cs := [_]) Try.underlying23 zr3 sz3 rfl rfl rfl ?_
        intro b9 w9 fb9 g9 B9
        have lb9 := B9.lt
        replace hA := hA.grow g9
        replace hE3 := hE3.grow g9
        replace O1 := O1.grow g9
        replace G := G.grow g9
        replace GL3 := GL3.grow g9
        replace GL7 := GL7.grow g9
        replace B1 := B1.grow g9
        replace B5 := B5.grow g9
        replace Bm := Bm.grow g9
        have zg9 := g9.size
        refine S_app Try.underlying23 zr3 sz3 by3 rfl rfl O1 rfl (Src.blk B9) (by simp [Value.oneCell']) (by omega) (Pr' := (fun i => b1 < i ∧ i ≠ b5)) (fun i hi => hi) (by omega) ?_
        intro A10 cap10 w10 X10 m10
        replace O1 := X10
        rw [ints_app] at O1
        clear X10
        replace G := Mod.trans' G m10 (fun _ h _ => h) (fun i h hl => by first | exact h | omega | (dsimp only at h ⊢; omega))
        replace GL3 := GL3.trn m10
        replace GL7 := GL7.trn m10
        replace hA := hA.md m10
        replace hE3 := hE3.md m10
        replace B1 := B1.md m10
        replace B5 := B5.md m10
        replace Bm := Bm.md m10
        have zm10 := m10.size
        refine S_val (Y_assign rfl) ?_
        refine S_nl rfl rfl ?_
        refine ib_n ?_
        refine th_n (hK10 _ _ ?_)
        clear hK10 K10
        refine Sb 63 rfl ?_  -- 7
        refine S_val (Y_move rfl) ?_
        refine S_val (Y_inc rfl rfl (by omega)) ?_
        refine S_val (Y_assign rfl) ?_
        refine S_nl rfl rfl ?_
        refine th_n ?_
        go_roundw  -- e3 of L2
        case rel =>
         refine ⟨?_, GL7⟩
         first | exact ⟨j + 1, _, _, _, _, _, rfl, rfl, by omega, hps.symm, by first | exact hq2 | (rw [List.length_append, hq2]; rfl), O1, Bm⟩
        case measure =>
         exact dec_nat (by omega)
       · -- c4F
        replace hb5 := nb_tf hb5
        rw [if_neg (by omega)] at hps
        refine wp_skip ?_
        refine ib_n ?_
        refine th_n (hK10 _ _ ?_)
        clear hK10 K10
        refine Sb 63 rfl ?_  -- 7
        refine S_val (Y_move rfl) ?_
        refine S_val (Y_inc rfl rfl (by omega)) ?_
        refine S_val (Y_assign rfl) ?_
        refine S_nl rfl rfl ?_
        refine th_n ?_
        go_roundw  -- e4 of L2
        case rel =>
         refine ⟨?_, GL7⟩
         first | exact ⟨j + 1, _, _, _, _, _, rfl, rfl, by omega, hps.symm, by first | exact hq2 | (rw [List.length_append, hq2]; rfl), O1, Bm⟩
        case measure =>
         exact dec_nat (by omega)
    · -- c2F
     replace hb2 := nb_tf hb2
     rw [List.take_of_length_le (by omega)] at hst
     rw [← hst] at hD
     dsimp only at hD
     refine wp_exit ?_
     refine th_x ?_
     try clear GL7
     refine th_x ?_
     refine ib_e ?_
     refine ib_n ?_
     refine th_n ?_
     go_roundw  -- e5 of L1
     case rel =>
      refine ⟨?_, GL3⟩
      exact ⟨q2, cap2, f1, A2, s2, t2, rfl, hq2, hwk2, by omega, by omega, hD, O1.weak (fun i hi => hi.1), Bm⟩
     case measure =>
      have hfl2 := flagsW_eq Bm hwk2.bnd
      rw [hfl, hfl2]
      show _ + q2 < _ + (t.length + 1)
      omega
  · -- c1F
   replace hb1 := nb_tf hb1
   have hwk0 : wk = [] := List.eq_nil_of_length_eq_zero (by omega)
   subst hwk0
   rw [drainF_nil] at hD
   rw [hD] at Bm
   refine wp_exit ?_
   refine th_x ?_
   try clear GL3
   refine th_x ?_
   refine ib_e ?_
   clear hK3 K3
   refine ret_n0 rfl ?_  -- r1
   exact ⟨Bm, G⟩
set_option maxHeartbeats 400000 in
set_option maxRecDepth 20000 in
theorem spec_l12Open_c (Pr P2 : Nat → Prop) (A B C : Option Addr) (h : LH) (c d e n : Nat) (s : List Int) (w : World) (hA : RC Pr w A h.cells) (hC : R1 P2 w C (bools (mB h.cells.length s))) (hz : hsize h ≤ 1048576) (hl : Leads h.cells h.roots nn) (hn : n < h.cells.length) :
    Calls Try.prog 55 #[.agg #[.slice A h.cells.length c, .slice B h.roots.length d], .slice C h.cells.length e, .int .i64 (n : Int)] w (Ret fun v w' => v = .bool (openB h.cells s n) ∧ Grow w w') := by
 have hz1 := hsize_cells h
 have hz2 := hsize_roots h
 have hz3 : ∀ k (hk : k < h.cells.length), h.cells[k].refs.length ≤ hsize h := fun k hk => hsize_refs h hk
 refine enter Try.func55 rfl Try.ntmps55 (L := [_,_,_,_,_,_,_,_,_,_,_,_,_,_,_,_,_,_,_,_,_,_,_,_,_,_,_,_,_,_,_,_,_,_,_,_,_,_,_,_,_,_,_,_]) rfl ?_
 have G := Mod.refl No w
 have hA0 := hA
 have hC0 := hC
 refine wp_seq_k fun K1 hK1 => ?_
 refine Sb 44 rfl ?_  -- 0
 refine S_box (cs := [_, _]) rfl rfl ?_
 intro b1 w1 fb1 g1 B1
 have lb1 := B1.lt
 replace hA := hA.grow g1
 replace hC := hC.grow g1
 replace G := G.grow g1
 have zg1 := g1.size
 refine S_val (Y_assign rfl) ?_
 refine S_nl rfl rfl ?_
 refine th_n (hK1 _ _ ?_)
 clear hK1 K1
 refine wp_seq_k fun K2 hK2 => ?_
 refine wp_seq_k fun K3 hK3 => ?_
 refine Sb 44 rfl ?_  -- 1
 refine S_val (Y_assign rfl) ?_
 refine S_nl rfl rfl ?_
 refine th_n (hK3 _ _ ?_)
 clear hK3 K3
 refine wp_block ?_
 obtain ⟨g2, o2, E2, d2, rfl, hp2, cc20, hE20⟩ := hA0.cell hn
 have cc2 := cc20.grow G
 have hE2 := hE20.grow G
 have hr1 := hsize_refs h hn
 go_loopw [7] (fun u7 wr => (∃ j : Nat, u7 = .int .i64 j ∧ j ≤ h.cells[n].refs.length ∧ (h.cells[n].refs.take j).any (opR s) = false) ∧ Mod No w1 wr) (fun u7 wr => h.cells[n].refs.length - (intOf u7).toNat)  -- L1
 case atStart =>
  refine ⟨?_, Mod.refl _ _⟩
  exact ⟨0, rfl, by omega, rfl⟩
 case round =>
  obtain ⟨w2, rfl⟩ : ∃ x : World, x = wr := ⟨_, rfl⟩
  obtain ⟨hrel, g2⟩ := hrel
  replace hA := hA.grow g2
  replace hC := hC.grow g2
  replace cc2 := cc2.grow g2
  replace hE2 := hE2.grow g2
  replace G := G.grow g2
  replace B1 := B1.grow g2
  have zg2 := g2.size
  obtain ⟨j, rfl, hj, hno⟩ := hrel
  have GL2 := g2
  refine wp_seq_k fun K4 hK4 => ?_
  refine wp_seq_k fun K5 hK5 => ?_
  refine Sb 44 rfl ?_  -- 2
  refine S_val (Y_move rfl) ?_
  refine S_val (Y_field Try.underlying32 rfl fz32_0 (by decide) rfl) ?_
  refine S_val (Y_load Try.underlying30 rfl rfl (B1.at (by rfl))) ?_  -- l1
  refine S_val (Y_move rfl) ?_
  refine S_val (Y_index Try.underlying30 sz63 rfl rfl (by first | assumption | omega)) ?_
  refine S_val (Y_field Try.underlying63 rfl fz63_2 (by decide) rfl) ?_
  refine S_val (Y_load Try.underlying23 rfl rfl (by first | assumption | exact cc2.at (by rfl) | exact B1.at (by rfl))) ?_  -- l2
  refine S_val (Y_len Try.underlying23 rfl) ?_
  refine S_val (Y_lss rfl rfl) ?_
  refine S_val (Y_move rfl) ?_
  refine S_g 18 rfl (fun hb1 => ?_) (fun hb1 => ?_)  -- g1
  · -- g1T
   replace hb1 := nb_tt hb1
   have hj1 : j < h.cells[n].refs.length := by omega
   obtain ⟨g3, o3, rfl, hp3, hc3⟩ := hC.bool (k := n) (by rw [mB_len]; exact hn)
   rw [mB_at'] at hc3
   obtain ⟨g4, o4, rfl, hp4, hc4⟩ := hE2.int hj1
   refine S_on rfl rfl ?_
   refine S_val (Y_move rfl) ?_
   refine S_on rfl rfl ?_
   refine S_val (Y_move rfl) ?_
   refine S_on rfl rfl ?_
   refine S_val (Y_index Try.underlying27 sz4 rfl rfl (by first | assumption | omega)) ?_
   refine S_on rfl rfl ?_
   refine S_val (Y_load Try.underlying4 rfl rfl (by first | assumption | exact cc2.at (by rfl) | exact B1.at (by rfl))) ?_  -- l3
   refine S_val (Y_pickT rfl rfl) ?_
   refine S_nl rfl rfl ?_
   refine th_n (hK5 _ _ ?_)
   clear hK5 K5
   refine S_if rfl (fun hb2 => ?_) (fun hb2 => ?_)  -- c1
   · -- c1T
    first | with_reducible (replace hb2 := nb_nt hb2) | with_reducible (replace hb2 := nb_tt hb2) | with_reducible (replace hb2 := nb_bt hb2) | skip
    refine wp_skip ?_
    refine th_n (hK4 _ _ ?_)
    clear hK4 K4
    refine wp_seq_k fun K6 hK6 => ?_
    refine wp_block ?_
    refine wp_seq_k fun K7 hK7 => ?_
    refine Sb 44 rfl ?_  -- 4
    refine S_val (Y_field Try.underlying32 rfl fz32_0 (by decide) rfl) ?_
    refine S_val (Y_load Try.underlying30 rfl rfl (B1.at (by rfl))) ?_  -- l4
    refine S_val (Y_move rfl) ?_
    refine S_val (Y_index Try.underlying30 sz63 rfl rfl (by first | assumption | omega)) ?_
    refine S_val (Y_field Try.underlying63 rfl fz63_2 (by decide) rfl) ?_
    refine S_val (Y_load Try.underlying23 rfl rfl (by first | assumption | exact cc2.at (by rfl) | exact B1.at (by rfl))) ?_  -- l5
    refine S_val (Y_move rfl) ?_
    refine S_val (Y_index Try.underlying23 sz3 rfl rfl (by first | assumption | omega)) ?_
    refine S_val (Y_load Try.underlying3 rfl rfl (by first | assumption | exact cc2.at (by rfl) | exact B1.at (by rfl))) ?_  -- l6
    refine S_val (Y_assign rfl) ?_
    refine S_nl rfl rfl ?_
    refine th_n (hK7 _ _ ?_)
    clear hK7 K7
    refine wp_seq_k fun K8 hK8 => ?_
    refine Sb 44 rfl ?_  -- 5
    refine S_val (Y_move rfl) ?_
    refine S_val (Y_geq rfl rfl) ?_
    refine S_val (Y_move rfl) ?_
    refine S_g 37 rfl (fun hb3 => ?_) (fun hb3 => ?_)  -- g2
    · -- g2T
     replace hb3 := nb_tt hb3
     obtain ⟨m, hm, hmN⟩ := ref_at (hl.refs hn) hj1 hb3
     obtain ⟨g5, o5, e5, hp5, hc5⟩ := hC.bool (k := m) (by rw [mB_len]; exact hmN)
     cases e5
     rw [mB_at'] at hc5
     rw [hm]
     refine S_on rfl rfl ?_
     refine S_val (Y_move rfl) ?_
     refine S_on rfl rfl ?_
     refine S_val (Y_move rfl) ?_
     refine S_on rfl rfl ?_
     refine S_val (Y_index Try.underlying27 sz4 rfl rfl (by first | assumption | omega)) ?_
     refine S_on rfl rfl ?_
     refine S_val (Y_load Try.underlying4 rfl rfl (by first | assumption | exact cc2.at (by rfl) | exact B1.at (by rfl))) ?_  -- l7
     refine S_on rfl rfl ?_
     refine S_val (Y_not rfl) ?_
     refine S_val (Y_pickT rfl rfl) ?_
     refine S_nl rfl rfl ?_
     refine th_n (hK8 _ _ ?_)
     clear hK8 K8
     refine S_if rfl (fun hb4 => ?_) (fun hb4 => ?_)  -- c2
     · -- c2T
      first | with_reducible (replace hb4 := nb_nt hb4) | with_reducible (replace hb4 := nb_tt hb4) | with_reducible (replace hb4 := nb_bt hb4) | skip
      have hop : openB h.cells s n = true := openB_t (r := h.cells[n].refs[j]) (by assumption) (by rw [refsOf_at hn]; exact List.getElem_mem hj1) (by rw [hm]; simp [opR]; assumption)
      refine wp_seq_k fun K9 hK9 => ?_
      refine Sb 44 rfl ?_  -- 6
      refine S_val (Y_assign rfl) ?_
      refine S_nl rfl rfl ?_
      refine th_n (hK9 _ _ ?_)
      clear hK9 K9
      refine wp_ret ?_
      refine ib_r ?_
      refine th_r ?_
      try clear GL2
      refine th_r ?_
      refine ib_r ?_
      refine th_r ?_
      clear hK6 K6 hK2 K2
      refine ret_r1 rfl rfl ?_  -- r1
      first | exact ⟨by rw [hop], G⟩ | exact ⟨by rw [openB_f1 (by assumption)], G⟩ | (rw [List.take_of_length_le (by omega)] at hno; exact ⟨by rw [openB_f2 (by rw [refsOf_at hn]; exact hno)], G⟩)
     · -- c2F
      first | with_reducible (replace hb4 := nb_nf hb4) | with_reducible (replace hb4 := nb_tf hb4) | with_reducible (replace hb4 := nb_bf hb4) | skip
      refine wp_skip ?_
      refine ib_n ?_
      refine th_n (hK6 _ _ ?_)
      clear hK6 K6
      refine Sb 44 rfl ?_  -- 3
      refine S_val (Y_move rfl) ?_
      refine S_val (Y_inc rfl rfl (by omega)) ?_
      refine S_val (Y_assign rfl) ?_
      refine S_nl rfl rfl ?_
      refine th_n ?_
      go_roundw  -- e1 of L1
      case rel =>
       refine ⟨?_, GL2⟩
       first | exact ⟨j + 1, rfl, by omega, any_take (List.getElem?_eq_getElem hj1) hno (by rw [hm]; simp [opR]; assumption)⟩ | exact ⟨j + 1, rfl, by omega, any_take (List.getElem?_eq_getElem hj1) hno (by unfold opR; rw [decide_eq_false (by omega)]; rfl)⟩
      case measure =>
       exact dec_nat (by omega)
    · -- g2F
     replace hb3 := nb_tf hb3
     refine S_off rfl rfl ?_
     refine S_off rfl rfl ?_
     refine S_off rfl rfl ?_
     refine S_off rfl rfl ?_
     refine S_off rfl rfl ?_
     refine S_val (Y_pickF rfl rfl) ?_
     refine S_nl rfl rfl ?_
     refine th_n (hK8 _ _ ?_)
     clear hK8 K8
     refine S_ifF rfl ?_
     refine wp_skip ?_
     refine ib_n ?_
     refine th_n (hK6 _ _ ?_)
     clear hK6 K6
     refine Sb 44 rfl ?_  -- 3
     refine S_val (Y_move rfl) ?_
     refine S_val (Y_inc rfl rfl (by omega)) ?_
     refine S_val (Y_assign rfl) ?_
     refine S_nl rfl rfl ?_
     refine th_n ?_
     go_roundw  -- e2 of L1
     case rel =>
      refine ⟨?_, GL2⟩
      first | exact ⟨j + 1, rfl, by omega, any_take (List.getElem?_eq_getElem hj1) hno (by rw [hm]; simp [opR]; assumption)⟩ | exact ⟨j + 1, rfl, by omega, any_take (List.getElem?_eq_getElem hj1) hno (by unfold opR; rw [decide_eq_false (by omega)]; rfl)⟩
     case measure =>
      exact dec_nat (by omega)
   · -- c1F
    first | with_reducible (replace hb2 := nb_nf hb2) | with_reducible (replace hb2 := nb_tf hb2) | with_reducible (replace hb2 := nb_bf hb2) | skip
    refine wp_exit ?_
    refine th_x ?_
    try clear GL2
    refine th_x ?_
    refine ib_e ?_
    refine th_n (hK2 _ _ ?_)
    clear hK4 K4 hK2 K2
    refine wp_seq_k fun K10 hK10 => ?_
    refine Sb 44 rfl ?_  -- 7
    refine S_val (Y_assign rfl) ?_
    refine S_nl rfl rfl ?_
    refine th_n (hK10 _ _ ?_)
    clear hK10 K10
    refine wp_ret ?_
    refine ret_r1 rfl rfl ?_  -- r2
    first | exact ⟨by rw [hop], G⟩ | exact ⟨by rw [openB_f1 (by assumption)], G⟩ | (rw [List.take_of_length_le (by omega)] at hno; exact ⟨by rw [openB_f2 (by rw [refsOf_at hn]; exact hno)], G⟩)
  · -- g1F
   replace hb1 := nb_tf hb1
   refine S_off rfl rfl ?_
   refine S_off rfl rfl ?_
   refine S_off rfl rfl ?_
   refine S_off rfl rfl ?_
   refine S_val (Y_pickF rfl rfl) ?_
   refine S_nl rfl rfl ?_
   refine th_n (hK5 _ _ ?_)
   clear hK5 K5
   refine S_ifF rfl ?_
   refine wp_exit ?_
   refine th_x ?_
   try clear GL2
   refine th_x ?_
   refine ib_e ?_
   refine th_n (hK2 _ _ ?_)
   clear hK4 K4 hK2 K2
   refine wp_seq_k fun K11 hK11 => ?_
   refine Sb 44 rfl ?_  -- 7
   refine S_val (Y_assign rfl) ?_
   refine S_nl rfl rfl ?_
   refine th_n (hK11 _ _ ?_)
   clear hK11 K11
   refine wp_ret ?_
   refine ret_r1 rfl rfl ?_  -- r3
   first | exact ⟨by rw [hop], G⟩ | exact ⟨by rw [openB_f1 (by assumption)], G⟩ | (rw [List.take_of_length_le (by omega)] at hno; exact ⟨by rw [openB_f2 (by rw [refsOf_at hn]; exact hno)], G⟩)
set_option maxHeartbeats 400000 in
set_option maxRecDepth 20000 in
theorem spec_l12Any_c (Pr P2 : Nat → Prop) (A B C : Option Addr) (h : LH) (c d e : Nat) (s : List Int) (w : World) (hA : RC Pr w A h.cells) (hC : R1 P2 w C (bools (mB h.cells.length s))) (hz : hsize h ≤ 1048576) (hl : Leads h.cells h.roots nn) :
    Calls Try.prog 54 #[.agg #[.slice A h.cells.length c, .slice B h.roots.length d], .slice C h.cells.length e] w (Ret fun v w' => v = .bool (anyB h.cells s) ∧ Grow w w') := by
 have hz1 := hsize_cells h
 have hz2 := hsize_roots h
 have hz3 : ∀ k (hk : k < h.cells.length), h.cells[k].refs.length ≤ hsize h := fun k hk => hsize_refs h hk
 refine enter Try.func54 rfl Try.ntmps54 (L := [_,_,_,_,_,_,_,_,_,_,_,_,_,_,_,_]) rfl ?_
 have G := Mod.refl No w
 have hA0 := hA
 have hC0 := hC
 refine wp_seq_k fun K1 hK1 => ?_
 refine Sb 16 rfl ?_  -- 0
 refine S_box (cs := [_, _]) rfl rfl ?_
 intro b1 w1 fb1 g1 B1
 have lb1 := B1.lt
 replace hA := hA.grow g1
 replace hC := hC.grow g1
 replace G := G.grow g1
 have zg1 := g1.size
 refine S_val (Y_assign rfl) ?_
 refine S_nl rfl rfl ?_
 refine th_n (hK1 _ _ ?_)
 clear hK1 K1
 refine wp_seq_k fun K2 hK2 => ?_
 refine wp_seq_k fun K3 hK3 => ?_
 refine Sb 16 rfl ?_  -- 1
 refine S_val (Y_assign rfl) ?_
 refine S_nl rfl rfl ?_
 refine th_n (hK3 _ _ ?_)
 clear hK3 K3
 refine wp_block ?_
 go_loopw [5] (fun u5 wr => (∃ k : Nat, u5 = .int .i64 k ∧ k ≤ h.cells.length ∧ anyK h.cells s k = false) ∧ Mod No w1 wr) (fun u5 wr => h.cells.length - (intOf u5).toNat)  -- L1
 case atStart =>
  refine ⟨?_, Mod.refl _ _⟩
  exact ⟨0, rfl, by omega, rfl⟩
 case round =>
  obtain ⟨w2, rfl⟩ : ∃ x : World, x = wr := ⟨_, rfl⟩
  obtain ⟨hrel, g2⟩ := hrel
  replace hA := hA.grow g2
  replace hC := hC.grow g2
  replace G := G.grow g2
  replace B1 := B1.grow g2
  have zg2 := g2.size
  obtain ⟨k, rfl, hk, hno⟩ := hrel
  have GL2 := g2
  refine wp_seq_k fun K4 hK4 => ?_
  refine wp_seq_k fun K5 hK5 => ?_
  refine Sb 16 rfl ?_  -- 2
  refine S_val (Y_move rfl) ?_
  refine S_val (Y_move rfl) ?_
  refine S_val (Y_len Try.underlying27 rfl) ?_
  refine S_val (Y_lss rfl rfl) ?_
  refine S_nl rfl rfl ?_
  refine th_n (hK5 _ _ ?_)
  clear hK5 K5
  refine S_if rfl (fun hb1 => ?_) (fun hb1 => ?_)  -- c1
  · -- c1T
   replace hb1 := nb_tt hb1
   have hk1 : k < h.cells.length := by omega
   refine wp_skip ?_
   refine th_n (hK4 _ _ ?_)
   clear hK4 K4
   refine wp_seq_k fun K6 hK6 => ?_
   refine wp_block ?_
   refine wp_seq_k fun K7 hK7 => ?_
   refine Sb 16 rfl ?_  -- 4
   refine S_val (Y_loadS Try.underlying32 rfl sz32 rfl (B1.row (by rfl))) ?_  -- l1
   refine S_val (Y_move rfl) ?_
   refine S_val (Y_move rfl) ?_
   refine S_call rfl en55 (spec_l12Open_c _ _ _ _ _ h _ _ _ k s _ hA hC (by omega) hl hk1) ?_  -- k1 spec.l12Open
   rintro v3 w3 ⟨rfl, g3⟩
   replace hA := hA.grow g3
   replace hC := hC.grow g3
   replace G := G.grow g3
   replace GL2 := GL2.grow g3
   replace B1 := B1.grow g3
   have zg3 := g3.size
   refine S_nl rfl rfl ?_
   refine th_n (hK7 _ _ ?_)
   clear hK7 K7
   refine S_if rfl (fun hb2 => ?_) (fun hb2 => ?_)  -- c2
   · -- c2T
    first | with_reducible (replace hb2 := nb_nt hb2) | with_reducible (replace hb2 := nb_tt hb2) | with_reducible (replace hb2 := nb_bt hb2) | skip
    refine wp_seq_k fun K8 hK8 => ?_
    refine Sb 16 rfl ?_  -- 5
    refine S_val (Y_assign rfl) ?_
    refine S_nl rfl rfl ?_
    refine th_n (hK8 _ _ ?_)
    clear hK8 K8
    refine wp_ret ?_
    refine ib_r ?_
    refine th_r ?_
    try clear GL2
    refine th_r ?_
    refine ib_r ?_
    refine th_r ?_
    clear hK6 K6 hK2 K2
    refine ret_r1 rfl rfl ?_  -- r1
    first | exact ⟨by rw [anyK_hit hk1 (by assumption)], G⟩ | exact ⟨by rw [show anyB h.cells s = false from hno], G⟩
   · -- c2F
    first | with_reducible (replace hb2 := nb_nf hb2) | with_reducible (replace hb2 := nb_tf hb2) | with_reducible (replace hb2 := nb_bf hb2) | skip
    refine wp_skip ?_
    refine ib_n ?_
    refine th_n (hK6 _ _ ?_)
    clear hK6 K6
    refine Sb 16 rfl ?_  -- 3
    refine S_val (Y_move rfl) ?_
    refine S_val (Y_inc rfl rfl (by omega)) ?_
    refine S_val (Y_assign rfl) ?_
    refine S_nl rfl rfl ?_
    refine th_n ?_
    go_roundw  -- e1 of L1
    case rel =>
     refine ⟨?_, GL2⟩
     exact ⟨k + 1, rfl, by omega, by rw [anyK_succ, hno, (by assumption : openB h.cells s k = false)]; rfl⟩
    case measure =>
     exact dec_nat (by omega)
  · -- c1F
   replace hb1 := nb_tf hb1
   have hkN : k = h.cells.length := by omega
   subst hkN
   refine wp_exit ?_
   refine th_x ?_
   try clear GL2
   refine th_x ?_
   refine ib_e ?_
   refine th_n (hK2 _ _ ?_)
   clear hK4 K4 hK2 K2
   refine wp_seq_k fun K9 hK9 => ?_
   refine Sb 16 rfl ?_  -- 6
   refine S_val (Y_assign rfl) ?_
   refine S_nl rfl rfl ?_
   refine th_n (hK9 _ _ ?_)
   clear hK9 K9
   refine wp_ret ?_
   refine ret_r1 rfl rfl ?_  -- r2
   first | exact ⟨by rw [anyK_hit hk1 (by assumption)], G⟩ | exact ⟨by rw [show anyB h.cells s = false from hno], G⟩
set_option maxHeartbeats 1000000 in
set_option maxRecDepth 20000 in
theorem spec_MarkBounded_c (Pr : Nat → Prop) (A B : Option Addr) (h : LH) (c d : Nat) (x : Int) (w : World) (hA : RC Pr w A h.cells) (hB : R1 Pr w B (ints h.roots)) (hz : hsize h ≤ 1048576) :
    Calls Try.prog 12 #[.agg #[.slice A h.cells.length c, .slice B h.roots.length d], .int .i64 x] w (Ret fun v w' => ∃ A1 q cap, v = .tuple #[.slice A1 q cap, .int .i64 (boundV h x).2] ∧ q = (boundV h x).1.length ∧ OI (fun i => w.heap.size ≤ i) w' 4 A1 (bools (boundV h x).1) ∧ Grow w w') := by
 have hz1 := hsize_cells h
 have hz2 := hsize_roots h
 have hz3 : ∀ k (hk : k < h.cells.length), h.cells[k].refs.length ≤ hsize h := fun k hk => hsize_refs h hk
 have hAl := hA.below
 have hBl := hB.below
 refine enter Try.func12 rfl Try.ntmps12 (L := [_,_,_,_,_,_,_,_,_,_,_,_,_,_,_,_,_,_,_,_,_,_,_,_,_,_,_,_,_,_,_,_,_,_,_,_,_,_,_,_,_,_,_,_,_,_,_,_,_,_,_,_,_,_,_,_,_,_,_,_,_,_,_,_,_,_,_,_,_,_,_,_,_,_,_]) rfl ?_
 have G := Mod.refl No w
 have hAl0 := hAl
 have hBl0 := hBl
 refine wp_seq_k fun K1 hK1 => ?_
 refine Sb 75 rfl ?_  -- 0
 refine S_box (cs := [_, _]) rfl rfl ?_
 intro b1 w1 fb1 g1 B1
 have lb1 := B1.lt
 replace hAl := hAl.grow g1
 replace hBl := hBl.grow g1
 replace G := G.grow g1
 have zg1 := g1.size
 refine S_val (Y_assign rfl) ?_
 refine S_val (Y_assign rfl) ?_
 refine S_nl rfl rfl ?_
 refine th_n (hK1 _ _ ?_)
 clear hK1 K1
 refine wp_seq_k fun K2 hK2 => ?_
 refine wp_seq_k fun K3 hK3 => ?_
 refine Sb 75 rfl ?_  -- 1
 refine S_val (Y_loadS Try.underlying32 rfl sz32 rfl (B1.row (by rfl))) ?_  -- l1
 refine S_call rfl en49 (spec_HeapValid_c _ _ _ _ _ _ _ (by assumption) (by assumption) (by omega)) ?_  -- k1 spec.HeapValid
 rintro v2 w2 ⟨rfl, g2⟩
 replace hAl := hAl.grow g2
 replace hBl := hBl.grow g2
 replace G := G.grow g2
 replace B1 := B1.grow g2
 have zg2 := g2.size
 refine S_val (Y_not rfl) ?_
 refine S_val (Y_move rfl) ?_
 refine S_g 14 rfl (fun hb1 => ?_) (fun hb1 => ?_)  -- g1
 · -- g1T
  first | with_reducible (replace hb1 := nb_nt hb1) | with_reducible (replace hb1 := nb_tt hb1) | with_reducible (replace hb1 := nb_bt hb1) | skip
  have hsv := boundV_f1 (x := x) hb1
  refine S_off rfl rfl ?_
  refine S_off rfl rfl ?_
  refine S_off rfl rfl ?_
  refine S_val (Y_pickT rfl rfl) ?_
  refine S_nl rfl rfl ?_
  refine th_n (hK3 _ _ ?_)
  clear hK3 K3
  refine S_ifT rfl ?_
  refine wp_seq_k fun K4 hK4 => ?_
  refine Sb 75 rfl ?_  -- 2
  refine S_bs0 Try.underlying27 sz4 ?_
  intro b3 w3 fb3 g3 B3
  have lb3 := B3.lt
  replace hAl := hAl.grow g3
  replace hBl := hBl.grow g3
  replace G := G.grow g3
  replace B1 := B1.grow g3
  have zg3 := g3.size
  refine S_val (Y_assign rfl) ?_
  refine S_val (Y_assign rfl) ?_
  refine S_nl rfl rfl ?_
  refine th_n (hK4 _ _ ?_)
  clear hK4 K4
  refine wp_ret ?_
  refine th_r ?_
  clear hK2 K2
  refine ret_r2 rfl rfl rfl ?_  -- r1
  first | exact ⟨_, _, _, by rw [hsv], by rw [hsv]; rfl, by rw [hsv]; exact OI.nil _ _ _ _, G⟩ | exact ⟨_, _, _, by rw [hsv, ← hd2], by rw [hsv]; exact (mB_len _ _).symm, by rw [hsv, ← hd1]; exact OI.of_blk' BM (by omega), G⟩
 · -- g1F
  first | with_reducible (replace hb1 := nb_nf hb1) | with_reducible (replace hb1 := nb_tf hb1) | with_reducible (replace hb1 := nb_bf hb1) | skip
  have hv9 := hb1
  have va := valid_iff.1 hv9
  have hl := va.leads
  have h40 := va.le
  have hr4 := va.roots4
  refine S_on rfl rfl ?_
  refine S_val (Y_move rfl) ?_
  refine S_on rfl rfl ?_
  refine S_call rfl en52 (spec_l1In_c _ _ _ _) ?_  -- k2 spec.l1In
  rintro v w' ⟨rfl, rfl⟩
  refine S_on rfl rfl ?_
  refine S_val (Y_not rfl) ?_
  refine S_val (Y_pickF rfl rfl) ?_
  refine S_nl rfl rfl ?_
  refine th_n (hK3 _ _ ?_)
  clear hK3 K3
  refine S_if rfl (fun hb2 => ?_) (fun hb2 => ?_)  -- c1
  · -- c1T
   first | with_reducible (replace hb2 := nb_nt hb2) | with_reducible (replace hb2 := nb_tt hb2) | with_reducible (replace hb2 := nb_bt hb2) | skip
   have hsv := boundV_f2 (h := h) (x := x) (by first | assumption | omega)
   refine wp_seq_k fun K5 hK5 => ?_
   refine Sb 75 rfl ?_  -- 2
   refine S_bs0 Try.underlying27 sz4 ?_
   intro b5 w5 fb5 g5 B5
   have lb5 := B5.lt
   replace hAl := hAl.grow g5
   replace hBl := hBl.grow g5
   replace G := G.grow g5
   replace B1 := B1.grow g5
   have zg5 := g5.size
   refine S_val (Y_assign rfl) ?_
   refine S_val (Y_assign rfl) ?_
   refine S_nl rfl rfl ?_
   refine th_n (hK5 _ _ ?_)
   clear hK5 K5
   refine wp_ret ?_
   refine th_r ?_
   clear hK2 K2
   refine ret_r2 rfl rfl rfl ?_  -- r2
   first | exact ⟨_, _, _, by rw [hsv], by rw [hsv]; rfl, by rw [hsv]; exact OI.nil _ _ _ _, G⟩ | exact ⟨_, _, _, by rw [hsv, ← hd2], by rw [hsv]; exact (mB_len _ _).symm, by rw [hsv, ← hd1]; exact OI.of_blk' BM (by omega), G⟩
  · -- c1F
   first | with_reducible (replace hb2 := nb_nf hb2) | with_reducible (replace hb2 := nb_tf hb2) | with_reducible (replace hb2 := nb_bf hb2) | skip
   obtain ⟨pl, rfl⟩ := Int.eq_ofNat_of_zero_le (show 0 ≤ x by omega)
   have hp1 : 1 ≤ pl := by omega
   have hp40 : pl ≤ 40 := by omega
   have hsv := boundV_t hv9 hp1 hp40
   refine wp_skip ?_
   refine th_n (hK2 _ _ ?_)
   clear hK2 K2
   refine wp_seq_k fun K6 hK6 => ?_
   refine Sb 75 rfl ?_  -- 3
   refine S_val (Y_field Try.underlying32 rfl fz32_0 (by decide) rfl) ?_
   refine S_val (Y_load Try.underlying30 rfl rfl (B1.at (by rfl))) ?_  -- l2
   refine S_val (Y_len Try.underlying30 rfl) ?_
   refine S_make (n := h.cells.length) (l := h.cells.length) (z := [.bool false]) Try.underlying27 zr4 sz4 by4 rfl rfl (by omega) (by omega) (by omega) ?_
   intro b6 w6 fb6 g6 B6
   have lb6 := B6.lt
   replace hAl := hAl.grow g6
   replace hBl := hBl.grow g6
   replace G := G.grow g6
   replace B1 := B1.grow g6
   have zg6 := g6.size
   obtain ⟨bM, rfl⟩ : ∃ x, x = b6 := ⟨_, rfl⟩
   have BM := Blk.eq B6 (mB_zero _)
   refine S_val (Y_assign rfl) ?_
   refine S_nl rfl rfl ?_
   refine th_n (hK6 _ _ ?_)
   clear hK6 K6
   refine wp_seq_k fun K7 hK7 => ?_
   refine wp_seq_k fun K8 hK8 => ?_
   refine Sb 75 rfl ?_  -- 4
   refine S_val (Y_assign rfl) ?_
   refine S_nl rfl rfl ?_
   refine th_n (hK8 _ _ ?_)
   clear hK8 K8
   refine wp_block ?_
   go_loopw [7] (fun u7 wr => (∃ k : Nat, u7 = .int .i64 k ∧ k ≤ h.roots.length ∧ Blk wr bM 4 (bools (mB h.cells.length (rootsL h.cells pl (h.roots.take k)))).toArray) ∧ Mod (fun i => i = bM) w6 wr) (fun u7 wr => h.roots.length - (intOf u7).toNat)  -- L1
   case atStart =>
    refine ⟨?_, Mod.refl _ _⟩
    exact ⟨0, rfl, by omega, BM⟩
   case round =>
    obtain ⟨w7, rfl⟩ : ∃ x : World, x = wr := ⟨_, rfl⟩
    obtain ⟨hrel, g7⟩ := hrel
    clear BM
    replace G := G.abv g7
    replace hAl := hAl0.grow G
    replace hBl := hBl0.grow G
    replace B1 := B1.md g7
    have zg7 := g7.size
    obtain ⟨k, rfl, hk, BM⟩ := hrel
    have hrb := rootsL_bnd hl (pl := pl) (k := k)
    have GL7 := g7
    refine wp_seq_k fun K9 hK9 => ?_
    refine wp_seq_k fun K10 hK10 => ?_
    refine Sb 75 rfl ?_  -- 5
    refine S_val (Y_move rfl) ?_
    refine S_val (Y_field Try.underlying32 rfl fz32_1 (by decide) rfl) ?_
    refine S_val (Y_load Try.underlying23 rfl rfl (B1.at (by rfl))) ?_  -- l3
    refine S_val (Y_len Try.underlying23 rfl) ?_
    refine S_val (Y_lss rfl rfl) ?_
    refine S_nl rfl rfl ?_
    refine th_n (hK10 _ _ ?_)
    clear hK10 K10
    refine S_if rfl (fun hb3 => ?_) (fun hb3 => ?_)  -- c2
    · -- c2T
     replace hb3 := nb_tt hb3
     have hk1 : k < h.roots.length := by omega
     obtain ⟨g4, o4, rfl, hp4, hc4⟩ := hBl.int hk1
     have hrs := rootsL_succ (cs := h.cells) (pl := pl) hk1
     refine wp_skip ?_
     refine th_n (hK9 _ _ ?_)
     clear hK9 K9
     refine wp_seq_k fun K11 hK11 => ?_
     refine wp_block ?_
     refine wp_seq_k fun K12 hK12 => ?_
     refine Sb 75 rfl ?_  -- 7
     refine S_val (Y_field Try.underlying32 rfl fz32_1 (by decide) rfl) ?_
     refine S_val (Y_load Try.underlying23 rfl rfl (B1.at (by rfl))) ?_  -- l4
     refine S_val (Y_move rfl) ?_
     refine S_val (Y_index Try.underlying23 sz3 rfl rfl (by first | assumption | omega)) ?_
     refine S_val (Y_load Try.underlying3 rfl rfl (by first | assumption | exact B1.at (by rfl) | exact BM.at (by rfl))) ?_  -- l5
     refine S_val (Y_assign rfl) ?_
     refine S_nl rfl rfl ?_
     refine th_n (hK12 _ _ ?_)
     clear hK12 K12
     refine wp_seq_k fun K13 hK13 => ?_
     refine Sb 75 rfl ?_  -- 8
     refine S_val (Y_move rfl) ?_
     refine S_val (Y_geq rfl rfl) ?_
     refine S_val (Y_move rfl) ?_
     refine S_g 38 rfl (fun hb4 => ?_) (fun hb4 => ?_)  -- g2
     · -- g2T
      replace hb4 := nb_tt hb4
      obtain ⟨m, hm, hmN⟩ := ref_at hl.1 hk1 hb4
      rw [hm] at hrs
      rw [hm]
      have hcm : w7.cell? ⟨bM, 0 + m * 1, none⟩ = some (.bool (decide ((m : Int) ∈ (rootsL h.cells pl (h.roots.take k))))) := by simpa using BM.at (mB_at hmN)
      refine S_on rfl rfl ?_
      refine S_val (Y_move rfl) ?_
      refine S_on rfl rfl ?_
      refine S_val (Y_move rfl) ?_
      refine S_on rfl rfl ?_
      refine S_val (Y_index Try.underlying27 sz4 rfl rfl (by first | assumption | omega)) ?_
      refine S_on rfl rfl ?_
      refine S_val (Y_load Try.underlying4 rfl rfl (by first | assumption | exact B1.at (by rfl) | exact BM.at (by rfl))) ?_  -- l6
      refine S_on rfl rfl ?_
      refine S_val (Y_not rfl) ?_
      refine S_val (Y_pickT rfl rfl) ?_
      refine S_nl rfl rfl ?_
      refine th_n (hK13 _ _ ?_)
      clear hK13 K13
      refine S_if rfl (fun hb5 => ?_) (fun hb5 => ?_)  -- c3
      · -- c3T
       first | with_reducible (replace hb5 := nb_nt hb5) | with_reducible (replace hb5 := nb_tt hb5) | with_reducible (replace hb5 := nb_bt hb5) | skip
       rw [root1_new hb5] at hrs
       have hb2 := hrb.snoc hmN hb5
       refine wp_seq_k fun K14 hK14 => ?_
       refine Sb 75 rfl ?_  -- 9
       refine S_val (Y_move rfl) ?_
       refine S_val (Y_move rfl) ?_
       refine S_val (Y_index Try.underlying27 sz4 rfl rfl (by first | assumption | omega)) ?_
       refine S_stM (pre := (bools (mB h.cells.length (rootsL h.cells pl (h.roots.take k)))).take m) (old := [.bool (decide ((m : Int) ∈ (rootsL h.cells pl (h.roots.take k))))]) (post := (bools (mB h.cells.length (rootsL h.cells pl (h.roots.take k)))).drop (m + 1)) (vs := [_]) sz4 rfl rfl rfl rfl (by rw [← mB_split (N := h.cells.length) (n := m) (s := (rootsL h.cells pl (h.roots.take k))) hmN]; exact BM) (by rw [List.length_take, bools_len, mB_len]; omega) rfl ?_
       intro w8 m8 X8
       replace BM := Blk.eq X8 (mB_set hmN)
       clear X8
       replace G := G.abv m8
       replace GL7 := GL7.trn m8
       replace hAl := hAl0.grow G
       replace hBl := hBl0.grow G
       replace B1 := B1.md m8
       have zm8 := m8.size
       refine S_nl rfl rfl ?_
       refine th_n (hK14 _ _ ?_)
       clear hK14 K14
       refine Sb 75 rfl ?_  -- 10
       refine S_val (Y_loadS Try.underlying32 rfl sz32 rfl (B1.row (by rfl))) ?_  -- l7
       refine S_val (Y_move rfl) ?_
       refine S_val (Y_move rfl) ?_
       refine S_val (Y_move rfl) ?_
       refine S_call rfl en53 (spec_l12Drain_c _ _ h _ _ m pl bM w.heap.size (rootsL h.cells pl (h.roots.take k) ++ [(m : Int)]) _ hAl (by omega) hl (by omega) BM hb2 (by simp) (by omega) (by omega)) ?_  -- k3 spec.l12Drain
       rintro v9 w9 ⟨X9, m9⟩
       replace BM := X9
       clear X9
       replace G := G.abv m9
       replace GL7 := GL7.trn m9
       replace hAl := hAl0.grow G
       replace hBl := hBl0.grow G
       replace B1 := B1.md m9
       have zm9 := m9.size
       refine S_nl rfl rfl ?_
       refine ib_n ?_
       refine th_n (hK11 _ _ ?_)
       clear hK11 K11
       refine Sb 75 rfl ?_  -- 6
       refine S_val (Y_move rfl) ?_
       refine S_val (Y_inc rfl rfl (by omega)) ?_
       refine S_val (Y_assign rfl) ?_
       refine S_nl rfl rfl ?_
       refine th_n ?_
       go_roundw  -- e1 of L1
       case rel =>
        refine ⟨?_, GL7⟩
        exact ⟨k + 1, rfl, by omega, by rw [hrs]; exact BM⟩
       case measure =>
        exact dec_nat (by omega)
      · -- c3F
       first | with_reducible (replace hb5 := nb_nf hb5) | with_reducible (replace hb5 := nb_tf hb5) | with_reducible (replace hb5 := nb_bf hb5) | skip
       first | rw [root1_old (fun h9 => h9.2 hb5)] at hrs | skip
       refine wp_skip ?_
       refine ib_n ?_
       refine th_n (hK11 _ _ ?_)
       clear hK11 K11
       refine Sb 75 rfl ?_  -- 6
       refine S_val (Y_move rfl) ?_
       refine S_val (Y_inc rfl rfl (by omega)) ?_
       refine S_val (Y_assign rfl) ?_
       refine S_nl rfl rfl ?_
       refine th_n ?_
       go_roundw  -- e2 of L1
       case rel =>
        refine ⟨?_, GL7⟩
        exact ⟨k + 1, rfl, by omega, by rw [hrs]; exact BM⟩
       case measure =>
        exact dec_nat (by omega)
     · -- g2F
      replace hb4 := nb_tf hb4
      rw [root1_old (fun h9 => by omega)] at hrs
      refine S_off rfl rfl ?_
      refine S_off rfl rfl ?_
      refine S_off rfl rfl ?_
      refine S_off rfl rfl ?_
      refine S_off rfl rfl ?_
      refine S_val (Y_pickF rfl rfl) ?_
      refine S_nl rfl rfl ?_
      refine th_n (hK13 _ _ ?_)
      clear hK13 K13
      refine S_ifF rfl ?_
      refine wp_skip ?_
      refine ib_n ?_
      refine th_n (hK11 _ _ ?_)
      clear hK11 K11
      refine Sb 75 rfl ?_  -- 6
      refine S_val (Y_move rfl) ?_
      refine S_val (Y_inc rfl rfl (by omega)) ?_
      refine S_val (Y_assign rfl) ?_
      refine S_nl rfl rfl ?_
      refine th_n ?_
      go_roundw  -- e3 of L1
      case rel =>
       refine ⟨?_, GL7⟩
       exact ⟨k + 1, rfl, by omega, by rw [hrs]; exact BM⟩
      case measure =>
       exact dec_nat (by omega)
    · -- c2F
     replace hb3 := nb_tf hb3
     rw [List.take_of_length_le (by omega)] at BM hrb
     refine wp_exit ?_
     refine th_x ?_
     try clear GL7
     refine th_x ?_
     refine ib_e ?_
     refine th_n (hK7 _ _ ?_)
     clear hK9 K9 hK7 K7
     refine wp_seq_k fun K15 hK15 => ?_
     refine Sb 75 rfl ?_  -- 11
     refine S_val (Y_assign rfl) ?_
     refine S_nl rfl rfl ?_
     refine th_n (hK15 _ _ ?_)
     clear hK15 K15
     refine wp_seq_k fun K16 hK16 => ?_
     refine wp_block ?_
     go_loopw [9] (fun u9 wr => (∃ (f p : Nat) (s : List Int), u9 = .int .i64 p ∧ Bnd h.cells.length s ∧ p ≤ 1 + s.length ∧ h.cells.length ≤ f + s.length ∧ bndF h.cells pl f s p = boundL h pl ∧ Blk wr bM 4 (bools (mB h.cells.length s)).toArray) ∧ Mod (fun i => i = bM) w7 wr) (fun u9 wr => h.cells.length - flagsW wr bM h.cells.length)  -- L2
     case atStart =>
      refine ⟨?_, Mod.refl _ _⟩
      exact ⟨h.cells.length, 1, _, rfl, hrb, by omega, by omega, rfl, BM⟩
     case round =>
      obtain ⟨w10, rfl⟩ : ∃ x : World, x = wr := ⟨_, rfl⟩
      obtain ⟨hrel, g10⟩ := hrel
      clear BM
      replace G := G.abv g10
      replace hAl := hAl0.grow G
      replace hBl := hBl0.grow G
      replace B1 := B1.md g10
      have zg10 := g10.size
      obtain ⟨f, p, s, rfl, hbd, hp, hf, hD, BM⟩ := hrel
      have hfl := flagsW_eq BM hbd
      have hsl := hbd.len
      have hRM := R1.of_blkE BM
      have GL10 := g10
      refine wp_seq_k fun K17 hK17 => ?_
      refine wp_seq_k fun K18 hK18 => ?_
      refine Sb 75 rfl ?_  -- 12
      refine S_val (Y_loadS Try.underlying32 rfl sz32 rfl (B1.row (by rfl))) ?_  -- l8
      refine S_val (Y_move rfl) ?_
      refine S_call rfl en54 (spec_l12Any_c _ _ _ _ _ h _ _ _ s _ hAl hRM (by omega) hl) ?_  -- k4 spec.l12Any
      rintro v11 w11 ⟨rfl, g11⟩
      replace hAl := hAl.grow g11
      replace hBl := hBl.grow g11
      replace G := G.grow g11
      replace GL10 := GL10.grow g11
      replace B1 := B1.grow g11
      replace BM := BM.grow g11
      have zg11 := g11.size
      refine S_nl rfl rfl ?_
      refine th_n (hK18 _ _ ?_)
      clear hK18 K18
      refine S_if rfl (fun hb4 => ?_) (fun hb4 => ?_)  -- c4
      · -- c4T
       first | with_reducible (replace hb4 := nb_nt hb4) | with_reducible (replace hb4 := nb_tt hb4) | with_reducible (replace hb4 := nb_bt hb4) | skip
       obtain ⟨f1, hf1, hf2⟩ := bndF_step hl (pl := pl) (p := p) hbd hf hb4
       have hpa := pass_any (pl := pl) hb4
       have hroom := any_room hl hbd hb4
       clear hRM
       refine wp_skip ?_
       refine th_n (hK17 _ _ ?_)
       clear hK17 K17
       refine wp_block ?_
       refine wp_seq_k fun K19 hK19 => ?_
       refine Sb 75 rfl ?_  -- 13
       refine S_val (Y_move rfl) ?_
       refine S_val (Y_inc rfl rfl (by omega)) ?_
       refine S_val (Y_assign rfl) ?_
       refine S_nl rfl rfl ?_
       refine th_n (hK19 _ _ ?_)
       clear hK19 K19
       refine wp_seq_k fun K20 hK20 => ?_
       refine Sb 75 rfl ?_  -- 14
       refine S_val (Y_assign rfl) ?_
       refine S_nl rfl rfl ?_
       refine th_n (hK20 _ _ ?_)
       clear hK20 K20
       refine wp_block ?_
       go_loopw [10] (fun u10 wr => (∃ k : Nat, u10 = .int .i64 k ∧ k ≤ h.cells.length ∧ Blk wr bM 4 (bools (mB h.cells.length (passL h.cells pl s k))).toArray) ∧ Mod (fun i => i = bM) w11 wr) (fun u10 wr => h.cells.length - (intOf u10).toNat)  -- L3
       case atStart =>
        refine ⟨?_, Mod.refl _ _⟩
        exact ⟨0, rfl, by omega, BM⟩
       case round =>
        obtain ⟨w12, rfl⟩ : ∃ x : World, x = wr := ⟨_, rfl⟩
        obtain ⟨hrel, g12⟩ := hrel
        clear BM
        replace G := G.abv g12
        replace GL10 := GL10.trn g12
        replace hAl := hAl0.grow G
        replace hBl := hBl0.grow G
        replace B1 := B1.md g12
        have zg12 := g12.size
        obtain ⟨k, rfl, hk, BM⟩ := hrel
        have hpb := passL_bnd hl (pl := pl) (k := k) hbd
        have GL12 := g12
        refine wp_seq_k fun K21 hK21 => ?_
        refine wp_seq_k fun K22 hK22 => ?_
        refine Sb 75 rfl ?_  -- 15
        refine S_val (Y_move rfl) ?_
        refine S_val (Y_move rfl) ?_
        refine S_val (Y_len Try.underlying27 rfl) ?_
        refine S_val (Y_lss rfl rfl) ?_
        refine S_nl rfl rfl ?_
        refine th_n (hK22 _ _ ?_)
        clear hK22 K22
        refine S_if rfl (fun hb5 => ?_) (fun hb5 => ?_)  -- c5
        · -- c5T
         replace hb5 := nb_tt hb5
         have hk1 : k < h.cells.length := by omega
         have hps := passL_succ h.cells pl s k
         have hRM := R1.of_blkE BM
         refine wp_skip ?_
         refine th_n (hK21 _ _ ?_)
         clear hK21 K21
         refine wp_seq_k fun K23 hK23 => ?_
         refine wp_block ?_
         refine wp_seq_k fun K24 hK24 => ?_
         refine Sb 75 rfl ?_  -- 17
         refine S_val (Y_loadS Try.underlying32 rfl sz32 rfl (B1.row (by rfl))) ?_  -- l9
         refine S_val (Y_move rfl) ?_
         refine S_val (Y_move rfl) ?_
         refine S_call rfl en55 (spec_l12Open_c _ _ _ _ _ h _ _ _ k (passL h.cells pl s k) _ hAl hRM (by omega) hl hk1) ?_  -- k5 spec.l12Open
         rintro v13 w13 ⟨rfl, g13⟩
         replace hAl := hAl.grow g13
         replace hBl := hBl.grow g13
         replace G := G.grow g13
         replace GL10 := GL10.grow g13
         replace GL12 := GL12.grow g13
         replace B1 := B1.grow g13
         replace BM := BM.grow g13
         have zg13 := g13.size
         clear hRM
         refine S_nl rfl rfl ?_
         refine th_n (hK24 _ _ ?_)
         clear hK24 K24
         refine S_if rfl (fun hb6 => ?_) (fun hb6 => ?_)  -- c6
         · -- c6T
          first | with_reducible (replace hb6 := nb_nt hb6) | with_reducible (replace hb6 := nb_tt hb6) | with_reducible (replace hb6 := nb_bt hb6) | skip
          rw [pass1_t hb6] at hps
          have hin := (openB_some hb6).1
          refine Sb 75 rfl ?_  -- 18
          refine S_val (Y_loadS Try.underlying32 rfl sz32 rfl (B1.row (by rfl))) ?_  -- l10
          refine S_val (Y_move rfl) ?_
          refine S_val (Y_move rfl) ?_
          refine S_val (Y_move rfl) ?_
          refine S_call rfl en53 (spec_l12Drain_c _ _ h _ _ k pl bM w.heap.size (passL h.cells pl s k) _ hAl (by omega) hl (by omega) BM hpb hin (by omega) (by omega)) ?_  -- k6 spec.l12Drain
          rintro v14 w14 ⟨X14, m14⟩
          replace BM := X14
          clear X14
          replace G := G.abv m14
          replace GL10 := GL10.trn m14
          replace GL12 := GL12.trn m14
          replace hAl := hAl0.grow G
          replace hBl := hBl0.grow G
          replace B1 := B1.md m14
          have zm14 := m14.size
          refine S_nl rfl rfl ?_
          refine ib_n ?_
          refine th_n (hK23 _ _ ?_)
          clear hK23 K23
          refine Sb 75 rfl ?_  -- 16
          refine S_val (Y_move rfl) ?_
          refine S_val (Y_inc rfl rfl (by omega)) ?_
          refine S_val (Y_assign rfl) ?_
          refine S_nl rfl rfl ?_
          refine th_n ?_
          go_roundw  -- e4 of L3
          case rel =>
           refine ⟨?_, GL12⟩
           exact ⟨k + 1, rfl, by omega, by rw [hps]; exact BM⟩
          case measure =>
           exact dec_nat (by omega)
         · -- c6F
          first | with_reducible (replace hb6 := nb_nf hb6) | with_reducible (replace hb6 := nb_tf hb6) | with_reducible (replace hb6 := nb_bf hb6) | skip
          rw [pass1_f hb6] at hps
          refine wp_skip ?_
          refine ib_n ?_
          refine th_n (hK23 _ _ ?_)
          clear hK23 K23
          refine Sb 75 rfl ?_  -- 16
          refine S_val (Y_move rfl) ?_
          refine S_val (Y_inc rfl rfl (by omega)) ?_
          refine S_val (Y_assign rfl) ?_
          refine S_nl rfl rfl ?_
          refine th_n ?_
          go_roundw  -- e5 of L3
          case rel =>
           refine ⟨?_, GL12⟩
           exact ⟨k + 1, rfl, by omega, by rw [hps]; exact BM⟩
          case measure =>
           exact dec_nat (by omega)
        · -- c5F
         replace hb5 := nb_tf hb5
         have hkN : k = h.cells.length := by omega
         subst hkN
         refine wp_exit ?_
         refine th_x ?_
         try clear GL12
         refine th_x ?_
         refine ib_e ?_
         refine ib_n ?_
         refine th_n ?_
         go_roundw  -- e6 of L2
         case rel =>
          refine ⟨?_, GL10⟩
          exact ⟨f1, p + 1, _, rfl, hpb, by omega, hf2, by rw [← hf1]; exact hD, BM⟩
         case measure =>
          have hfl2 := flagsW_eq BM (passL_bnd hl (pl := pl) (k := h.cells.length) hbd)
          rw [hfl, hfl2]
          omega
      · -- c4F
       first | with_reducible (replace hb4 := nb_nf hb4) | with_reducible (replace hb4 := nb_tf hb4) | with_reducible (replace hb4 := nb_bf hb4) | skip
       rw [bndF_stop hb4] at hD
       have hd1 : s = (boundL h pl).1 := by rw [← hD]
       have hd2 : p = (boundL h pl).2 := by rw [← hD]
       refine wp_exit ?_
       refine th_x ?_
       try clear GL10
       refine th_x ?_
       refine ib_e ?_
       refine th_n (hK16 _ _ ?_)
       clear hK17 K17 hK16 K16
       refine wp_seq_k fun K25 hK25 => ?_
       refine Sb 75 rfl ?_  -- 19
       refine S_val (Y_move rfl) ?_
       refine S_val (Y_move rfl) ?_
       refine S_val (Y_assign rfl) ?_
       refine S_val (Y_assign rfl) ?_
       refine S_nl rfl rfl ?_
       refine th_n (hK25 _ _ ?_)
       clear hK25 K25
       refine wp_ret ?_
       refine ret_r2 rfl rfl rfl ?_  -- r3
       first | exact ⟨_, _, _, by rw [hsv], by rw [hsv]; rfl, by rw [hsv]; exact OI.nil _ _ _ _, G⟩ | exact ⟨_, _, _, by rw [hsv, ← hd2], by rw [hsv]; exact (mB_len _ _).symm, by rw [hsv, ← hd1]; exact OI.of_blk' BM (by omega), G⟩
set_option maxHeartbeats 400000 in
set_option maxRecDepth 20000 in
theorem impl_cellSet_add2_c (V0 V1 V3 V4 : Value) (m n : Nat) (b1 : Nat) (w : World) (B1 : Blk w b1 80 [V0, V1, .int .u64 (m : Int), V3, V4].toArray) (hm : m < 2 ^ 64) (hn : n < 64) :
    Calls Try.prog 59 #[.pointer (some ⟨b1, 2, none⟩), .int .i64 (n : Int)] w (Ret fun _v w' => Blk w' b1 80 [V0, V1, .int .u64 ((addN m n : Nat) : Int), V3, V4].toArray ∧ Mod (fun i => i = b1) w w') := by
 have hn2 : 1 * 2 ^ n < 2 ^ 64 := by rw [Nat.one_mul]; exact Nat.pow_lt_pow_right (by decide) hn
 refine enter Try.func59 rfl Try.ntmps59 (L := [_,_,_,_,_,_,_,_,_,_,_]) rfl ?_
 have G := Mod.refl (fun i => i = b1) w
 refine D_start 8 11 (fun w => Mod (fun i => i = b1) w) follows rfl rfl ?_  -- d1 r0
 intro w1 g1
 replace G := G.grow g1
 replace B1 := B1.grow g1
 have zg1 := g1.size
 have GS1 := Mod.refl (fun i => i = b1) w1
 refine Dq (i := 0) rfl GS1 (fun _ _ => Y_move rfl) ?_
 refine Dq (i := 1) rfl GS1 (fun _ _ => Y_nil rfl) ?_
 refine Dq (i := 3) rfl GS1 (fun _ _ => Y_move rfl) ?_
 refine Dq (i := 4) rfl GS1 (fun _ _ => Y_shl (a := 1) rfl rfl hn2 hn) ?_
 refine D_1 (i := 2) (by kernel_rfl) ?_
 refine E_val (i := 2) rfl (Y_load Try.underlying78 rfl rfl (B1.at (by rfl))) GS1 ?_
 refine Dq (i := 5) rfl GS1 (fun _ _ => Y_or rfl rfl hm hn2) ?_
 refine Dq (i := 6) rfl GS1 (fun _ _ => Y_nil rfl) ?_
 refine D_1 (i := 7) (by kernel_rfl) ?_
 refine E_stM (pre := [_, _]) (old := [_]) (post := [_, _]) (vs := [_]) (i := 7) rfl sz78 rfl rfl rfl (by first | rfl | assumption) B1 rfl rfl ?_
 intro w3 m3 X3
 replace B1 := Blk.eq (ys := [_, _, _, _, _]) X3 rfl
 clear X3
 replace G := G.trans m3
 replace GS1 := GS1.trn m3
 have zm3 := m3.size
 refine ⟨GS1, ?_⟩
 refine D_en (by kernel_rfl) rfl rfl ?_
 refine ret_n0 rfl ?_  -- r1
 exact ⟨Blk.eq B1 (by simp [addN]), G⟩
set_option maxHeartbeats 2000000 in
set_option maxRecDepth 20000 in
theorem impl_marker_work_c (A B A1 : Option Addr) (h : LH) (c d n pl bk lo m cap : Nat) (s : List Int) (w : World) (hA : RC (fun k => k < lo) w A h.cells) (hz : hsize h ≤ 1048576) (hl : Leads h.cells h.roots nn) (hN : h.cells.length ≤ 64) (BK : Blk w bk 80 [.slice A h.cells.length c, .slice B h.roots.length d, .int .u64 (m : Int), .slice A1 0 cap, .int .i64 (pl : Int)].toArray) (O : OW (fun i => bk < i) w 3 1 A1 0 cap (ints [])) (hs : BitsOf m s) (hb : Bnd h.cells.length s) (hn : (n : Int) ∈ s) (hlo : lo ≤ bk) (hpl : pl ≤ 40) :
    Calls Try.prog 60 #[.pointer (some ⟨bk, 0, none⟩), .int .i64 (n : Int)] w (Ret fun _v w' => ∃ m2 cap2 A2, BitsOf m2 (drain h.cells pl s n) ∧ Blk w' bk 80 [.slice A h.cells.length c, .slice B h.roots.length d, .int .u64 (m2 : Int), .slice A2 0 cap2, .int .i64 (pl : Int)].toArray ∧ OW (fun i => bk < i) w' 3 1 A2 0 cap2 (ints []) ∧ Mod (fun i => bk ≤ i) w w') := by
 have hz1 := hsize_cells h
 have hz2 := hsize_roots h
 have hz3 : ∀ k (hk : k < h.cells.length), h.cells[k].refs.length ≤ hsize h := fun k hk => hsize_refs h hk
 have lbk := BK.lt
 have hs0 := List.length_pos_of_mem hn
 have hnN0 : n < h.cells.length := by have h9 := hb.2 _ hn; omega
 obtain ⟨gA, oA, _, _, rfl, _, _, _⟩ := hA.cell hnN0
 refine enter Try.func60 rfl Try.ntmps60 (L := [_,_,_,_,_,_,_,_,_,_,_,_,_,_,_,_,_,_,_,_,_,_,_,_,_,_,_,_,_,_,_,_,_,_,_,_,_,_,_,_,_,_,_,_,_,_,_,_,_,_,_,_,_,_,_,_,_,_,_,_,_,_,_,_,_,_,_,_,_,_,_,_,_,_,_,_,_,_,_,_,_,_,_,_,_,_,_,_,_,_,_,_,_,_,_,_,_,_,_]) rfl ?_
 have G := Mod.refl (fun i => bk ≤ i) w
 refine wp_seq_k fun K1 hK1 => ?_
 refine Sb 99 rfl ?_  -- 0
 refine S_val (Y_move rfl) ?_
 refine S_val (Y_move rfl) ?_
 refine S_val (Y_nil rfl) ?_
 refine S_val (Y_field Try.underlying80 rfl fz80_2 (by decide) rfl) ?_
 refine S_val (Y_load Try.underlying23 rfl rfl (BK.at (by rfl))) ?_  -- l1
 refine S_val (Y_move rfl) ?_
 refine S_bs1 (cs := [_]) Try.underlying23 zr3 sz3 rfl rfl rfl ?_
 intro b1 w1 fb1 g1 B1
 have lb1 := B1.lt
 replace hA := hA.grow g1
 replace O := O.grow g1
 replace G := G.grow g1
 replace BK := BK.grow g1
 have zg1 := g1.size
 refine S_app Try.underlying23 zr3 sz3 by3 rfl rfl O rfl (Src.blk B1) (by simp [Value.oneCell']) (by omega) (Pr' := (fun i => bk < i)) (fun i hi => hi) (by omega) ?_
 intro A2 cap2 w2 X2 m2
 replace O := X2
 rw [ints_app] at O
 clear X2
 replace G := Mod.trans' G m2 (fun _ h _ => h) (fun i h hl => by first | exact h | omega | (dsimp only at h ⊢; omega))
 replace hA := hA.md m2
 replace BK := BK.md m2
 have zm2 := m2.size
 refine S_val (Y_nil rfl) ?_
 refine S_val (Y_field Try.underlying80 rfl fz80_2 (by decide) rfl) ?_
 refine S_stM (pre := [_, _, _]) (old := [_]) (post := [_]) (vs := [_]) sz23 rfl rfl rfl (by first | rfl | assumption) BK rfl rfl ?_
 intro w3 m3 X3
 replace BK := Blk.eq (ys := [_, _, _, _, _]) X3 rfl
 clear X3
 replace G := Mod.trans' G m3 (fun _ h _ => h) (fun i h hl => by first | exact h | omega | (dsimp only at h ⊢; omega))
 replace hA := hA.md m3
 replace O := O.md m3
 have zm3 := m3.size
 refine S_nl rfl rfl ?_
 refine th_n (hK1 _ _ ?_)
 clear hK1 K1
 refine wp_block ?_
 go_loopw [4] (fun u4 wr => (∃ (m2 q cap f : Nat) (A1 : Option Addr) (s1 wk : List Int), q = wk.length ∧ Wk h.cells.length s1 wk ∧ wk.length ≤ s1.length ∧ wk.length + h.cells.length ≤ f + s1.length ∧ drainF h.cells pl f s1 wk = drain h.cells pl s n ∧ BitsOf m2 s1 ∧ Blk wr bk 80 [.slice (some ⟨gA, oA, none⟩) h.cells.length c, .slice B h.roots.length d, .int .u64 (m2 : Int), .slice A1 q cap, .int .i64 (pl : Int)].toArray ∧ OW (fun i => bk < i) wr 3 1 A1 q cap (ints wk)) ∧ Mod (fun i => bk ≤ i) w3 wr) (fun u4 wr => (h.cells.length - popc h.cells.length (natI wr bk 2)) + natI wr bk 3)  -- L1
 case atStart =>
  refine ⟨?_, Mod.refl _ _⟩
  exact ⟨m, 1, _, h.cells.length + 1, _, s, [(n : Int)], rfl, ⟨hb, fun x hx => by rw [List.mem_singleton] at hx; rw [hx]; exact hn⟩, by simp; omega, by simp; omega, rfl, hs, BK, O⟩
 case round =>
  obtain ⟨w4, rfl⟩ : ∃ x : World, x = wr := ⟨_, rfl⟩
  obtain ⟨hrel, g4⟩ := hrel
  clear BK
  clear O
  replace G := Mod.trans' G g4 (fun _ h _ => h) (fun i h hl => by first | exact h | omega | (dsimp only at h ⊢; omega))
  replace hA := hA.md g4
  have zg4 := g4.size
  obtain ⟨m1, q, cap1, f, A1, s1, wk, hq, hwk, hws, hf, hD, ht1, BK, O⟩ := hrel
  have hM := natI_int (i := 2) BK rfl
  have hL := natI_len (i := 3) BK rfl
  have hP := popc_eq ht1.2 hwk.bnd
  have hcap := O.cap
  have hsl := hwk.bnd.len
  have GL4 := g4
  refine wp_seq_k fun K2 hK2 => ?_
  refine wp_seq_k fun K3 hK3 => ?_
  refine Sb 99 rfl ?_  -- 1
  refine S_val (Y_move rfl) ?_
  refine S_val (Y_nil rfl) ?_
  refine S_val (Y_field Try.underlying80 rfl fz80_2 (by decide) rfl) ?_
  refine S_val (Y_load Try.underlying23 rfl rfl (BK.at (by rfl))) ?_  -- l2
  refine S_val (Y_len Try.underlying23 rfl) ?_
  refine S_val (Y_gtr rfl rfl) ?_
  refine S_nl rfl rfl ?_
  refine th_n (hK3 _ _ ?_)
  clear hK3 K3
  refine S_if rfl (fun hb1 => ?_) (fun hb1 => ?_)  -- c1
  · -- c1T
   replace hb1 := nb_tt hb1
   have hq0 : wk ≠ [] := fun e => by rw [e] at hq; simp at hq; omega
   obtain ⟨t, n1, rfl, hn1N, hn1s, hwt⟩ := (wk_last hwk).resolve_left hq0
   have hq1 : q = t.length + 1 := by rw [hq]; simp
   subst hq1
   clear hq
   rw [List.length_append, List.length_singleton] at hf hws
   have hz4 := hz3 n1 hn1N
   obtain ⟨f1, rfl⟩ : ∃ x, f = x + 1 := ⟨f - 1, by omega⟩
   rw [drainF_step, refsOf_at hn1N] at hD
   have hkk : t.length < (t ++ [(n1 : Int)]).length := by simp
   have hlast : (t ++ [(n1 : Int)])[t.length] = (n1 : Int) := by simp
   obtain ⟨g3, o3, E3, d3, e3, hp3, cc3, hE3⟩ := hA.cell hn1N
   cases e3
   refine wp_skip ?_
   refine th_n (hK2 _ _ ?_)
   clear hK2 K2
   refine wp_block ?_
   refine wp_seq_k fun K4 hK4 => ?_
   refine D_start 13 99 (fun w => Mod (No) w) follows rfl rfl ?_  -- d1 r2
   intro w5 g5
   replace hA := hA.grow g5
   replace O := O.grow g5
   replace hE3 := hE3.grow g5
   replace G := G.grow g5
   replace GL4 := GL4.grow g5
   replace BK := BK.grow g5
   replace cc3 := cc3.grow g5
   have zg5 := g5.size
   have GS5 := Mod.refl (No) w5
   obtain ⟨g2, o2, rfl, hp2, hc2⟩ := O.r1.int hkk
   rw [hlast] at hc2
   replace O : OW (fun i => bk < i) w5 3 1 (some ⟨g2, o2, none⟩) t.length cap1 (ints t) := by rw [← ints_init t (n1 : Int)]; exact O.pop (by omega)
   have BKd5 := BK
   refine Dq (i := 0) rfl GS5 (fun _ _ => Y_move rfl) ?_
   refine Dq (i := 1) rfl GS5 (fun _ _ => Y_nil rfl) ?_
   refine Dq (i := 2) rfl GS5 (fun _ _ => Y_field Try.underlying80 rfl fz80_2 (by decide) rfl) ?_
   refine Dq (i := 3) rfl GS5 (fun _ hs => Y_load Try.underlying23 rfl rfl (hs.cell0 (BK.at (by rfl)))) ?_
   refine Dq (i := 4) rfl GS5 (fun _ _ => Y_move rfl) ?_
   refine Dq (i := 5) rfl GS5 (fun _ _ => Y_nil rfl) ?_
   refine Dq (i := 6) rfl GS5 (fun _ _ => Y_field Try.underlying80 rfl fz80_2 (by decide) rfl) ?_
   refine Dq (i := 7) rfl GS5 (fun _ hs => Y_load Try.underlying23 rfl rfl (hs.cell0 (BK.at (by rfl)))) ?_
   refine Dq (i := 8) rfl GS5 (fun _ _ => Y_len Try.underlying23 rfl) ?_
   refine Dq (i := 9) rfl GS5 (fun _ _ => Y_sub (c := ((t.length : Nat) : Int)) rfl rfl (by omega) (by omega) (by omega)) ?_
   refine Dq (i := 10) rfl GS5 (fun _ _ => Y_index Try.underlying23 sz3 rfl rfl (by first | assumption | omega)) ?_
   refine Dq (i := 11) rfl GS5 (fun _ hs => Y_load Try.underlying3 rfl rfl (by first | exact hs.cell0 (by assumption) | exact hs.cell0 (BK.at (by rfl)) | exact hs.cell0 (cc3.at (by rfl)))) ?_
   refine Dq (i := 12) rfl GS5 (fun _ _ => Y_assign rfl) ?_
   refine D_en (by kernel_rfl) rfl rfl ?_
   refine th_n (hK4 _ _ ?_)
   clear hK4 K4
   refine wp_seq_k fun K5 hK5 => ?_
   refine D_start 15 99 (fun w => Mod (fun i => i = bk) w) follows rfl rfl ?_  -- d2 r3
   intro w6 g6
   replace hA := hA.grow g6
   replace O := O.grow g6
   replace hE3 := hE3.grow g6
   replace G := G.grow g6
   replace GL4 := GL4.grow g6
   replace BK := BK.grow g6
   replace cc3 := cc3.grow g6
   have zg6 := g6.size
   have GS6 := Mod.refl (fun i => i = bk) w6
   refine Dq (i := 0) rfl GS6 (fun _ _ => Y_move rfl) ?_
   refine Dq (i := 1) rfl GS6 (fun _ _ => Y_move rfl) ?_
   refine Dq (i := 2) rfl GS6 (fun _ _ => Y_nil rfl) ?_
   refine Dq (i := 3) rfl GS6 (fun _ _ => Y_field Try.underlying80 rfl fz80_2 (by decide) rfl) ?_
   refine Dq (i := 5) rfl GS6 (fun _ _ => Y_move rfl) ?_
   refine Dq (i := 6) rfl GS6 (fun _ _ => Y_nil rfl) ?_
   refine Dq (i := 7) rfl GS6 (fun _ _ => Y_field Try.underlying80 rfl fz80_2 (by decide) rfl) ?_
   refine D_2 (i := 4) (j := 8) (by kernel_rfl) ?_ ?_
   · -- operation 4 comes up
    refine E_val (i := 4) rfl (Y_load Try.underlying23 rfl rfl (BK.at (by rfl))) GS6 ?_
    refine D_1 (i := 8) (by kernel_rfl) ?_
    refine E_val (i := 8) rfl (Y_load Try.underlying23 rfl rfl (BK.at (by rfl))) GS6 ?_
    refine Dq (i := 9) rfl GS6 (fun _ _ => Y_len Try.underlying23 rfl) ?_
    refine Dq (i := 10) rfl GS6 (fun _ _ => Y_sub (c := ((t.length : Nat) : Int)) rfl rfl (by omega) (by omega) (by omega)) ?_
    refine Dq (i := 11) rfl GS6 (fun _ _ => Y_sliceH Try.underlying23 sz3 rfl rfl (by omega)) ?_
    refine Dq (i := 12) rfl GS6 (fun _ _ => Y_nil rfl) ?_
    refine Dq (i := 13) rfl GS6 (fun _ _ => Y_field Try.underlying80 rfl fz80_2 (by decide) rfl) ?_
    refine D_1 (i := 14) (by kernel_rfl) ?_
    refine E_stM (pre := [_, _, _]) (old := [_]) (post := [_]) (vs := [_]) (i := 14) rfl sz23 rfl rfl rfl (by first | rfl | assumption) BK rfl rfl ?_
    intro w9 m9 X9
    replace BK := Blk.eq (ys := [_, _, _, _, _]) X9 rfl
    clear X9
    replace G := Mod.trans' G m9 (fun _ h _ => h) (fun i h hl => by first | exact h | omega | (dsimp only at h ⊢; omega))
    replace GL4 := GL4.trn m9
    replace GS6 := GS6.trn m9
    replace hA := hA.md m9
    replace O := O.md m9
    replace hE3 := hE3.md m9
    replace cc3 := cc3.md m9
    have zm9 := m9.size
    refine ⟨GS6, ?_⟩
    refine D_en (by kernel_rfl) rfl rfl ?_
    refine th_n (hK5 _ _ ?_)
    clear hK5 K5
    refine wp_seq_k fun K6 hK6 => ?_
    refine Sb 99 rfl ?_  -- 4
    refine S_val (Y_move rfl) ?_
    refine S_val (Y_nil rfl) ?_
    refine S_val (Y_field Try.underlying80 rfl fz80_0 (by decide) rfl) ?_
    refine S_val (Y_field Try.underlying32 rfl fz32_0 (by decide) rfl) ?_
    refine S_val (Y_load Try.underlying30 rfl rfl (BK.at (by rfl))) ?_  -- l6
    refine S_val (Y_move rfl) ?_
    refine S_val (Y_index Try.underlying30 sz63 rfl rfl (by first | assumption | omega)) ?_
    refine S_val (Y_field Try.underlying63 rfl fz63_2 (by decide) rfl) ?_
    refine S_val (Y_load Try.underlying23 rfl rfl (by first | assumption | exact BK.at (by rfl) | exact cc3.at (by rfl))) ?_  -- l7
    refine S_val (Y_len Try.underlying23 rfl) ?_
    refine S_val (Y_move rfl) ?_
    refine S_nl rfl rfl ?_
    refine th_n (hK6 _ _ ?_)
    clear hK6 K6
    refine wp_block ?_
    go_loopw [59] (fun u59 wr => (∃ (j m2 q cap : Nat) (A1 : Option Addr) (s2 t2 : List Int), u59 = .int .i64 j ∧ j ≤ h.cells[n1].refs.length ∧ (s2, t2) = pushL pl s1 t (h.cells[n1].refs.take j) ∧ q = t2.length ∧ BitsOf m2 s2 ∧ Blk wr bk 80 [.slice (some ⟨gA, oA, none⟩) h.cells.length c, .slice B h.roots.length d, .int .u64 (m2 : Int), .slice A1 q cap, .int .i64 (pl : Int)].toArray ∧ OW (fun i => bk < i) wr 3 1 A1 q cap (ints t2)) ∧ Mod (fun i => bk ≤ i) w9 wr) (fun u59 wr => h.cells[n1].refs.length - (intOf u59).toNat)  -- L2
    case atStart =>
     refine ⟨?_, Mod.refl _ _⟩
     exact ⟨0, m1, _, _, _, s1, t, rfl, by omega, rfl, rfl, ht1, BK, O⟩
    case round =>
     obtain ⟨w10, rfl⟩ : ∃ x : World, x = wr := ⟨_, rfl⟩
     obtain ⟨hrel, g10⟩ := hrel
     clear BK
     clear O
     replace G := Mod.trans' G g10 (fun _ h _ => h) (fun i h hl => by first | exact h | omega | (dsimp only at h ⊢; omega))
     replace GL4 := GL4.trn g10
     replace hA := hA.md g10
     replace hE3 := hE3.md g10
     replace cc3 := cc3.md g10
     have zg10 := g10.size
     obtain ⟨j, m2, q2, cap2, A2, s2, t2, rfl, hj, hst, hq2, ht2, BK, O⟩ := hrel
     have hok := pushL_ok (pl := pl) (h.cells[n1].refs.take j) s1 t (fun x hx ho => hl.refs hn1N x (List.mem_of_mem_take hx) ho) hwt
     rw [← hst] at hok
     dsimp only at hok
     obtain ⟨hwk2, hln2⟩ := hok
     have hsl2 := hwk2.bnd.len
     have hcap2 := O.cap
     have hm2 := ht2.1
     have GL10 := g10
     refine wp_seq_k fun K7 hK7 => ?_
     refine Sb 99 rfl ?_  -- 5
     refine S_val (Y_lss rfl rfl) ?_
     refine S_nl rfl rfl ?_
     refine th_n (hK7 _ _ ?_)
     clear hK7 K7
     refine wp_seq_k fun K8 hK8 => ?_
     refine S_if rfl (fun hb2 => ?_) (fun hb2 => ?_)  -- c2
     · -- c2T
      replace hb2 := nb_tt hb2
      have hj1 : j < h.cells[n1].refs.length := by omega
      obtain ⟨g4, o4, rfl, hp4, hc4⟩ := hE3.int hj1
      have hps := pushL_succ (pl := pl) (s := s1) (t := t) hj1
      rw [← hst] at hps
      refine wp_skip ?_
      refine th_n (hK8 _ _ ?_)
      clear hK8 K8
      refine wp_seq_k fun K9 hK9 => ?_
      refine wp_block ?_
      refine wp_seq_k fun K10 hK10 => ?_
      refine Sb 99 rfl ?_  -- 6
      refine S_val (Y_index Try.underlying23 sz3 rfl rfl (by first | assumption | omega)) ?_
      refine S_val (Y_load Try.underlying3 rfl rfl (by first | assumption | exact cc3.at (by rfl) | exact BK.at (by rfl))) ?_  -- l8
      refine S_val (Y_assign rfl) ?_
      refine S_nl rfl rfl ?_
      refine th_n (hK10 _ _ ?_)
      clear hK10 K10
      refine wp_seq_k fun K11 hK11 => ?_
      refine wp_seq_k fun K12 hK12 => ?_
      refine Sb 99 rfl ?_  -- 7
      refine S_val (Y_move rfl) ?_
      refine S_val (Y_lss rfl rfl) ?_
      refine S_val (Y_move rfl) ?_
      refine S_g 65 rfl (fun hb3 => ?_) (fun hb3 => ?_)  -- g1
      · -- g1T
       replace hb3 := nb_tt hb3
       rw [push1_old (fun h9 => by omega)] at hps
       refine S_off rfl rfl ?_
       refine S_off rfl rfl ?_
       refine S_off rfl rfl ?_
       refine S_off rfl rfl ?_
       refine S_off rfl rfl ?_
       refine S_off rfl rfl ?_
       refine S_val (Y_pickT rfl rfl) ?_
       refine S_nl rfl rfl ?_
       refine th_n (hK12 _ _ ?_)
       clear hK12 K12
       refine S_ifT rfl ?_
       refine wp_exit ?_
       refine th_x ?_
       refine ib_e ?_
       refine th_n (hK9 _ _ ?_)
       clear hK11 K11 hK9 K9
       refine Sb 99 rfl ?_  -- 11
       refine S_val (Y_inc rfl rfl (by omega)) ?_
       refine S_val (Y_move rfl) ?_
       refine S_nl rfl rfl ?_
       refine th_n ?_
       go_roundw  -- e1 of L2
       case rel =>
        refine ⟨?_, GL10⟩
        first | exact ⟨j + 1, _, _, _, _, _, _, rfl, by omega, hps.symm, by first | exact hq2 | (rw [List.length_append, hq2]; rfl), ht3, BK, O⟩ | exact ⟨j + 1, _, _, _, _, _, _, rfl, by omega, hps.symm, hq2, ht2, BK, O⟩
       case measure =>
        exact dec_nat (by omega)
      · -- g1F
       replace hb3 := nb_tf hb3
       obtain ⟨k2, hm, hmN⟩ := ref_at (hl.refs hn1N) hj1 (by omega)
       rw [hm] at hps
       rw [hm]
       refine S_on rfl rfl ?_
       refine S_val (Y_move rfl) ?_
       refine S_on rfl rfl ?_
       refine S_val (Y_nil rfl) ?_
       refine S_on rfl rfl ?_
       refine S_val (Y_field Try.underlying80 rfl fz80_1 (by decide) rfl) ?_
       refine S_on rfl rfl ?_
       refine S_val (Y_load Try.underlying78 rfl rfl (BK.at (by rfl))) ?_  -- l9
       refine S_on rfl rfl ?_
       refine S_val (Y_move rfl) ?_
       refine S_on rfl rfl ?_
       refine S_call rfl en58 (impl_cellSet_has_c _ _ _ (by assumption)) ?_  -- k1 (impl.cellSet).has
       rintro v w' ⟨rfl, hww⟩
       rw [hww]
       clear hww w'
       refine S_val (Y_pickF rfl rfl) ?_
       refine S_nl rfl rfl ?_
       refine th_n (hK12 _ _ ?_)
       clear hK12 K12
       refine S_if rfl (fun hb4 => ?_) (fun hb4 => ?_)  -- c3
       · -- c3T
        first | with_reducible (replace hb4 := nb_nt hb4) | with_reducible (replace hb4 := nb_tt hb4) | with_reducible (replace hb4 := nb_bt hb4) | skip
        rw [hasB_nat, ht2.2] at hb4
        rw [push1_old (fun h9 => h9.2 (of_decide_eq_true hb4))] at hps
        refine wp_exit ?_
        refine th_x ?_
        refine ib_e ?_
        refine th_n (hK9 _ _ ?_)
        clear hK11 K11 hK9 K9
        refine Sb 99 rfl ?_  -- 11
        refine S_val (Y_inc rfl rfl (by omega)) ?_
        refine S_val (Y_move rfl) ?_
        refine S_nl rfl rfl ?_
        refine th_n ?_
        go_roundw  -- e2 of L2
        case rel =>
         refine ⟨?_, GL10⟩
         first | exact ⟨j + 1, _, _, _, _, _, _, rfl, by omega, hps.symm, by first | exact hq2 | (rw [List.length_append, hq2]; rfl), ht3, BK, O⟩ | exact ⟨j + 1, _, _, _, _, _, _, rfl, by omega, hps.symm, hq2, ht2, BK, O⟩
        case measure =>
         exact dec_nat (by omega)
       · -- c3F
        first | with_reducible (replace hb4 := nb_nf hb4) | with_reducible (replace hb4 := nb_tf hb4) | with_reducible (replace hb4 := nb_bf hb4) | skip
        rw [hasB_nat, ht2.2] at hb4
        rw [push1_new (by omega) (of_decide_eq_false hb4)] at hps
        refine wp_skip ?_
        refine th_n (hK11 _ _ ?_)
        clear hK11 K11
        refine wp_seq_k fun K13 hK13 => ?_
        refine Sb 99 rfl ?_  -- 8
        refine S_val (Y_move rfl) ?_
        refine S_val (Y_nil rfl) ?_
        refine S_val (Y_field Try.underlying80 rfl fz80_1 (by decide) rfl) ?_
        refine S_val (Y_move rfl) ?_
        refine S_call rfl en59 (impl_cellSet_add2_c _ _ _ _ m2 k2 bk _ BK hm2 (by omega)) ?_  -- k2 (*impl.cellSet).add
        rintro v11 w11 ⟨X11, m11⟩
        replace BK := X11
        clear X11
        replace G := Mod.trans' G m11 (fun _ h _ => h) (fun i h hl => by first | exact h | omega | (dsimp only at h ⊢; omega))
        replace GL4 := GL4.trn m11
        replace GL10 := GL10.trn m11
        replace hA := hA.md m11
        replace hE3 := hE3.md m11
        replace O := O.md m11
        replace cc3 := cc3.md m11
        have zm11 := m11.size
        have ht3 := ht2.add (n := k2) (by omega)
        refine S_nl rfl rfl ?_
        refine th_n (hK13 _ _ ?_)
        clear hK13 K13
        refine wp_seq_k fun K14 hK14 => ?_
        refine D_start 10 99 (fun w => Mod (No) w) follows rfl rfl ?_  -- d3 r9
        intro w12 g12
        replace hA := hA.grow g12
        replace hE3 := hE3.grow g12
        replace O := O.grow g12
        replace G := G.grow g12
        replace GL4 := GL4.grow g12
        replace GL10 := GL10.grow g12
        replace cc3 := cc3.grow g12
        replace BK := BK.grow g12
        have zg12 := g12.size
        have GS12 := Mod.refl (No) w12
        have BKd12 := BK
        refine Dq (i := 0) rfl GS12 (fun _ _ => Y_move rfl) ?_
        refine Dq (i := 1) rfl GS12 (fun _ _ => Y_nil rfl) ?_
        refine Dq (i := 2) rfl GS12 (fun _ _ => Y_field Try.underlying80 rfl fz80_2 (by decide) rfl) ?_
        refine Dq (i := 3) rfl GS12 (fun _ hs => Y_load Try.underlying23 rfl rfl (hs.cell0 (BK.at (by rfl)))) ?_
        refine Dq (i := 4) rfl GS12 (fun _ _ => Y_len Try.underlying23 rfl) ?_
        refine Dq (i := 5) rfl GS12 (fun _ _ => Y_move rfl) ?_
        refine Dq (i := 6) rfl GS12 (fun _ _ => Y_nil rfl) ?_
        refine Dq (i := 7) rfl GS12 (fun _ _ => Y_field Try.underlying80 rfl fz80_3 (by decide) rfl) ?_
        refine Dq (i := 8) rfl GS12 (fun _ hs => Y_load Try.underlying3 rfl rfl (hs.cell0 (BK.at (by rfl)))) ?_
        refine Dq (i := 9) rfl GS12 (fun _ _ => Y_lss rfl rfl) ?_
        refine D_en (by kernel_rfl) rfl rfl ?_
        refine th_n (hK14 _ _ ?_)
        clear hK14 K14
        refine S_if rfl (fun hb5 => ?_) (fun hb5 => ?_)  -- c4
        · -- c4T
         replace hb5 := nb_tt hb5
         rw [if_pos (by omega)] at hps
         refine Sb 99 rfl ?_  -- 10
         refine S_val (Y_move rfl) ?_
         refine S_val (Y_move rfl) ?_
         refine S_val (Y_nil rfl) ?_
         refine S_val (Y_field Try.underlying80 rfl fz80_2 (by decide) rfl) ?_
         refine S_val (Y_load Try.underlying23 rfl rfl (BK.at (by rfl))) ?_  -- l12
         refine S_val (Y_move rfl) ?_
         refine S_bs1 (cs := [_]) Try.underlying23 zr3 sz3 rfl rfl rfl ?_
         intro b13 w13 fb13 g13 B13
         have lb13 := B13.lt
         replace hA := hA.grow g13
         replace hE3 := hE3.grow g13
         replace O := O.grow g13
         replace G := G.grow g13
         replace GL4 := GL4.grow g13
         replace GL10 := GL10.grow g13
         replace cc3 := cc3.grow g13
         replace BK := BK.grow g13
         have zg13 := g13.size
         refine S_app Try.underlying23 zr3 sz3 by3 rfl rfl O rfl (Src.blk B13) (by simp [Value.oneCell']) (by omega) (Pr' := (fun i => bk < i)) (fun i hi => hi) (by omega) ?_
         intro A14 cap14 w14 X14 m14
         replace O := X14
         rw [ints_app] at O
         clear X14
         replace G := Mod.trans' G m14 (fun _ h _ => h) (fun i h hl => by first | exact h | omega | (dsimp only at h ⊢; omega))
         replace GL4 := GL4.trn m14
         replace GL10 := GL10.trn m14
         replace hA := hA.md m14
         replace hE3 := hE3.md m14
         replace cc3 := cc3.md m14
         replace BK := BK.md m14
         have zm14 := m14.size
         refine S_val (Y_nil rfl) ?_
         refine S_val (Y_field Try.underlying80 rfl fz80_2 (by decide) rfl) ?_
         refine S_stM (pre := [_, _, _]) (old := [_]) (post := [_]) (vs := [_]) sz23 rfl rfl rfl (by first | rfl | assumption) BK rfl rfl ?_
         intro w15 m15 X15
         replace BK := Blk.eq (ys := [_, _, _, _, _]) X15 rfl
         clear X15
         replace G := Mod.trans' G m15 (fun _ h _ => h) (fun i h hl => by first | exact h | omega | (dsimp only at h ⊢; omega))
         replace GL4 := GL4.trn m15
         replace GL10 := GL10.trn m15
         replace hA := hA.md m15
         replace hE3 := hE3.md m15
         replace O := O.md m15
         replace cc3 := cc3.md m15
         have zm15 := m15.size
         refine S_nl rfl rfl ?_
         refine ib_n ?_
         refine th_n (hK9 _ _ ?_)
         clear hK9 K9
         refine Sb 99 rfl ?_  -- 11
         refine S_val (Y_inc rfl rfl (by omega)) ?_
         refine S_val (Y_move rfl) ?_
         refine S_nl rfl rfl ?_
         refine th_n ?_
         go_roundw  -- e3 of L2
         case rel =>
          refine ⟨?_, GL10⟩
          first | exact ⟨j + 1, _, _, _, _, _, _, rfl, by omega, hps.symm, by first | exact hq2 | (rw [List.length_append, hq2]; rfl), ht3, BK, O⟩ | exact ⟨j + 1, _, _, _, _, _, _, rfl, by omega, hps.symm, hq2, ht2, BK, O⟩
         case measure =>
          exact dec_nat (by omega)
        · -- c4F
         replace hb5 := nb_tf hb5
         rw [if_neg (by omega)] at hps
         refine wp_skip ?_
         refine ib_n ?_
         refine th_n (hK9 _ _ ?_)
         clear hK9 K9
         refine Sb 99 rfl ?_  -- 11
         refine S_val (Y_inc rfl rfl (by omega)) ?_
         refine S_val (Y_move rfl) ?_
         refine S_nl rfl rfl ?_
         refine th_n ?_
         go_roundw  -- e4 of L2
         case rel =>
          refine ⟨?_, GL10⟩
          first | exact ⟨j + 1, _, _, _, _, _, _, rfl, by omega, hps.symm, by first | exact hq2 | (rw [List.length_append, hq2]; rfl), ht3, BK, O⟩ | exact ⟨j + 1, _, _, _, _, _, _, rfl, by omega, hps.symm, hq2, ht2, BK, O⟩
         case measure =>
          exact dec_nat (by omega)
     · -- c2F
      replace hb2 := nb_tf hb2
      rw [List.take_of_length_le (by omega)] at hst
      rw [← hst] at hD
      dsimp only at hD
      refine wp_exit ?_
      refine th_x ?_
      try clear GL10
      refine th_x ?_
      refine ib_e ?_
      refine ib_n ?_
      refine th_n ?_
      go_roundw  -- e5 of L1
      case rel =>
       refine ⟨?_, GL4⟩
       exact ⟨m2, q2, cap2, f1, A2, s2, t2, hq2, hwk2, by omega, by omega, hD, ht2, BK, O⟩
      case measure =>
       rw [hM, hL, natI_int (i := 2) BK rfl, natI_len (i := 3) BK rfl, hP, popc_eq ht2.2 hwk2.bnd]
       omega
   · -- operation 8 comes up
    refine E_val (i := 8) rfl (Y_load Try.underlying23 rfl rfl (BK.at (by rfl))) GS6 ?_
    refine Dq (i := 9) rfl GS6 (fun _ _ => Y_len Try.underlying23 rfl) ?_
    refine Dq (i := 10) rfl GS6 (fun _ _ => Y_sub (c := ((t.length : Nat) : Int)) rfl rfl (by omega) (by omega) (by omega)) ?_
    refine D_1 (i := 4) (by kernel_rfl) ?_
    refine E_val (i := 4) rfl (Y_load Try.underlying23 rfl rfl (BK.at (by rfl))) GS6 ?_
    refine Dq (i := 11) rfl GS6 (fun _ _ => Y_sliceH Try.underlying23 sz3 rfl rfl (by omega)) ?_
    refine Dq (i := 12) rfl GS6 (fun _ _ => Y_nil rfl) ?_
    refine Dq (i := 13) rfl GS6 (fun _ _ => Y_field Try.underlying80 rfl fz80_2 (by decide) rfl) ?_
    refine D_1 (i := 14) (by kernel_rfl) ?_
    refine E_stM (pre := [_, _, _]) (old := [_]) (post := [_]) (vs := [_]) (i := 14) rfl sz23 rfl rfl rfl (by first | rfl | assumption) BK rfl rfl ?_
    intro w18 m18 X18
    replace BK := Blk.eq (ys := [_, _, _, _, _]) X18 rfl
    clear X18
    replace G := Mod.trans' G m18 (fun _ h _ => h) (fun i h hl => by first | exact h | omega | (dsimp only at h ⊢; omega))
    replace GL4 := GL4.trn m18
    replace GS6 := GS6.trn m18
    replace hA := hA.md m18
    replace O := O.md m18
    replace hE3 := hE3.md m18
    replace cc3 := cc3.md m18
    have zm18 := m18.size
    refine ⟨GS6, ?_⟩
    refine D_en (by kernel_rfl) rfl rfl ?_
    refine th_n (hK5 _ _ ?_)
    clear hK5 K5
    refine wp_seq_k fun K15 hK15 => ?_
    refine Sb 99 rfl ?_  -- 4
    refine S_val (Y_move rfl) ?_
    refine S_val (Y_nil rfl) ?_
    refine S_val (Y_field Try.underlying80 rfl fz80_0 (by decide) rfl) ?_
    refine S_val (Y_field Try.underlying32 rfl fz32_0 (by decide) rfl) ?_
    refine S_val (Y_load Try.underlying30 rfl rfl (BK.at (by rfl))) ?_  -- l13
    refine S_val (Y_move rfl) ?_
    refine S_val (Y_index Try.underlying30 sz63 rfl rfl (by first | assumption | omega)) ?_
    refine S_val (Y_field Try.underlying63 rfl fz63_2 (by decide) rfl) ?_
    refine S_val (Y_load Try.underlying23 rfl rfl (by first | assumption | exact BK.at (by rfl) | exact cc3.at (by rfl))) ?_  -- l14
    refine S_val (Y_len Try.underlying23 rfl) ?_
    refine S_val (Y_move rfl) ?_
    refine S_nl rfl rfl ?_
    refine th_n (hK15 _ _ ?_)
    clear hK15 K15
    refine wp_block ?_
    go_loopw [59] (fun u59 wr => (∃ (j m2 q cap : Nat) (A1 : Option Addr) (s2 t2 : List Int), u59 = .int .i64 j ∧ j ≤ h.cells[n1].refs.length ∧ (s2, t2) = pushL pl s1 t (h.cells[n1].refs.take j) ∧ q = t2.length ∧ BitsOf m2 s2 ∧ Blk wr bk 80 [.slice (some ⟨gA, oA, none⟩) h.cells.length c, .slice B h.roots.length d, .int .u64 (m2 : Int), .slice A1 q cap, .int .i64 (pl : Int)].toArray ∧ OW (fun i => bk < i) wr 3 1 A1 q cap (ints t2)) ∧ Mod (fun i => bk ≤ i) w18 wr) (fun u59 wr => h.cells[n1].refs.length - (intOf u59).toNat)  -- L3
    case atStart =>
     refine ⟨?_, Mod.refl _ _⟩
     exact ⟨0, m1, _, _, _, s1, t, rfl, by omega, rfl, rfl, ht1, BK, O⟩
    case round =>
     obtain ⟨w19, rfl⟩ : ∃ x : World, x = wr := ⟨_, rfl⟩
     obtain ⟨hrel, g19⟩ := hrel
     clear BK
     clear O
     replace G := Mod.trans' G g19 (fun _ h _ => h) (fun i h hl => by first | exact h | omega | (dsimp only at h ⊢; omega))
     replace GL4 := GL4.trn g19
     replace hA := hA.md g19
     replace hE3 := hE3.md g19
     replace cc3 := cc3.md g19
     have zg19 := g19.size
     obtain ⟨j, m2, q2, cap2, A2, s2, t2, rfl, hj, hst, hq2, ht2, BK, O⟩ := hrel
     have hok := pushL_ok (pl := pl) (h.cells[n1].refs.take j) s1 t (fun x hx ho => hl.refs hn1N x (List.mem_of_mem_take hx) ho) hwt
     rw [← hst] at hok
     dsimp only at hok
     obtain ⟨hwk2, hln2⟩ := hok
     have hsl2 := hwk2.bnd.len
     have hcap2 := O.cap
     have hm2 := ht2.1
     have GL19 := g19
     refine wp_seq_k fun K16 hK16 => ?_
     refine Sb 99 rfl ?_  -- 5
     refine S_val (Y_lss rfl rfl) ?_
     refine S_nl rfl rfl ?_
     refine th_n (hK16 _ _ ?_)
     clear hK16 K16
     refine wp_seq_k fun K17 hK17 => ?_
     refine S_if rfl (fun hb2 => ?_) (fun hb2 => ?_)  -- c5
     · -- c5T
      replace hb2 := nb_tt hb2
      have hj1 : j < h.cells[n1].refs.length := by omega
      obtain ⟨g4, o4, rfl, hp4, hc4⟩ := hE3.int hj1
      have hps := pushL_succ (pl := pl) (s := s1) (t := t) hj1
      rw [← hst] at hps
      refine wp_skip ?_
      refine th_n (hK17 _ _ ?_)
      clear hK17 K17
      refine wp_seq_k fun K18 hK18 => ?_
      refine wp_block ?_
      refine wp_seq_k fun K19 hK19 => ?_
      refine Sb 99 rfl ?_  -- 6
      refine S_val (Y_index Try.underlying23 sz3 rfl rfl (by first | assumption | omega)) ?_
      refine S_val (Y_load Try.underlying3 rfl rfl (by first | assumption | exact cc3.at (by rfl) | exact BK.at (by rfl))) ?_  -- l15
      refine S_val (Y_assign rfl) ?_
      refine S_nl rfl rfl ?_
      refine th_n (hK19 _ _ ?_)
      clear hK19 K19
      refine wp_seq_k fun K20 hK20 => ?_
      refine wp_seq_k fun K21 hK21 => ?_
      refine Sb 99 rfl ?_  -- 7
      refine S_val (Y_move rfl) ?_
      refine S_val (Y_lss rfl rfl) ?_
      refine S_val (Y_move rfl) ?_
      refine S_g 65 rfl (fun hb3 => ?_) (fun hb3 => ?_)  -- g2
      · -- g2T
       replace hb3 := nb_tt hb3
       rw [push1_old (fun h9 => by omega)] at hps
       refine S_off rfl rfl ?_
       refine S_off rfl rfl ?_
       refine S_off rfl rfl ?_
       refine S_off rfl rfl ?_
       refine S_off rfl rfl ?_
       refine S_off rfl rfl ?_
       refine S_val (Y_pickT rfl rfl) ?_
       refine S_nl rfl rfl ?_
       refine th_n (hK21 _ _ ?_)
       clear hK21 K21
       refine S_ifT rfl ?_
       refine wp_exit ?_
       refine th_x ?_
       refine ib_e ?_
       refine th_n (hK18 _ _ ?_)
       clear hK20 K20 hK18 K18
       refine Sb 99 rfl ?_  -- 11
       refine S_val (Y_inc rfl rfl (by omega)) ?_
       refine S_val (Y_move rfl) ?_
       refine S_nl rfl rfl ?_
       refine th_n ?_
       go_roundw  -- e6 of L3
       case rel =>
        refine ⟨?_, GL19⟩
        first | exact ⟨j + 1, _, _, _, _, _, _, rfl, by omega, hps.symm, by first | exact hq2 | (rw [List.length_append, hq2]; rfl), ht3, BK, O⟩ | exact ⟨j + 1, _, _, _, _, _, _, rfl, by omega, hps.symm, hq2, ht2, BK, O⟩
       case measure =>
        exact dec_nat (by omega)
      · -- g2F
       replace hb3 := nb_tf hb3
       obtain ⟨k2, hm, hmN⟩ := ref_at (hl.refs hn1N) hj1 (by omega)
       rw [hm] at hps
       rw [hm]
       refine S_on rfl rfl ?_
       refine S_val (Y_move rfl) ?_
       refine S_on rfl rfl ?_
       refine S_val (Y_nil rfl) ?_
       refine S_on rfl rfl ?_
       refine S_val (Y_field Try.underlying80 rfl fz80_1 (by decide) rfl) ?_
       refine S_on rfl rfl ?_
       refine S_val (Y_load Try.underlying78 rfl rfl (BK.at (by rfl))) ?_  -- l16
       refine S_on rfl rfl ?_
       refine S_val (Y_move rfl) ?_
       refine S_on rfl rfl ?_
       refine S_call rfl en58 (impl_cellSet_has_c _ _ _ (by assumption)) ?_  -- k3 (impl.cellSet).has
       rintro v w' ⟨rfl, hww⟩
       rw [hww]
       clear hww w'
       refine S_val (Y_pickF rfl rfl) ?_
       refine S_nl rfl rfl ?_
       refine th_n (hK21 _ _ ?_)
       clear hK21 K21
       refine S_if rfl (fun hb4 => ?_) (fun hb4 => ?_)  -- c6
       · -- c6T
        first | with_reducible (replace hb4 := nb_nt hb4) | with_reducible (replace hb4 := nb_tt hb4) | with_reducible (replace hb4 := nb_bt hb4) | skip
        rw [hasB_nat, ht2.2] at hb4
        rw [push1_old (fun h9 => h9.2 (of_decide_eq_true hb4))] at hps
        refine wp_exit ?_
        refine th_x ?_
        refine ib_e ?_
        refine th_n (hK18 _ _ ?_)
        clear hK20 K20 hK18 K18
        refine Sb 99 rfl ?_  -- 11
        refine S_val (Y_inc rfl rfl (by omega)) ?_
        refine S_val (Y_move rfl) ?_
        refine S_nl rfl rfl ?_
        refine th_n ?_
        go_roundw  -- e7 of L3
        case rel =>
         refine ⟨?_, GL19⟩
         first | exact ⟨j + 1, _, _, _, _, _, _, rfl, by omega, hps.symm, by first | exact hq2 | (rw [List.length_append, hq2]; rfl), ht3, BK, O⟩ | exact ⟨j + 1, _, _, _, _, _, _, rfl, by omega, hps.symm, hq2, ht2, BK, O⟩
        case measure =>
         exact dec_nat (by omega)
       · -- c6F
        first | with_reducible (replace hb4 := nb_nf hb4) | with_reducible (replace hb4 := nb_tf hb4) | with_reducible (replace hb4 := nb_bf hb4) | skip
        rw [hasB_nat, ht2.2] at hb4
        rw [push1_new (by omega) (of_decide_eq_false hb4)] at hps
        refine wp_skip ?_
        refine th_n (hK20 _ _ ?_)
        clear hK20 K20
        refine wp_seq_k fun K22 hK22 => ?_
        refine Sb 99 rfl ?_  -- 8
        refine S_val (Y_move rfl) ?_
        refine S_val (Y_nil rfl) ?_
        refine S_val (Y_field Try.underlying80 rfl fz80_1 (by decide) rfl) ?_
        refine S_val (Y_move rfl) ?_
        refine S_call rfl en59 (impl_cellSet_add2_c _ _ _ _ m2 k2 bk _ BK hm2 (by omega)) ?_  -- k4 (*impl.cellSet).add
        rintro v20 w20 ⟨X20, m20⟩
        replace BK := X20
        clear X20
        replace G := Mod.trans' G m20 (fun _ h _ => h) (fun i h hl => by first | exact h | omega | (dsimp only at h ⊢; omega))
        replace GL4 := GL4.trn m20
        replace GL19 := GL19.trn m20
        replace hA := hA.md m20
        replace hE3 := hE3.md m20
        replace O := O.md m20
        replace cc3 := cc3.md m20
        have zm20 := m20.size
        have ht3 := ht2.add (n := k2) (by omega)
        refine S_nl rfl rfl ?_
        refine th_n (hK22 _ _ ?_)
        clear hK22 K22
        refine wp_seq_k fun K23 hK23 => ?_
        refine D_start 10 99 (fun w => Mod (No) w) follows rfl rfl ?_  -- d4 r9
        intro w21 g21
        replace hA := hA.grow g21
        replace hE3 := hE3.grow g21
        replace O := O.grow g21
        replace G := G.grow g21
        replace GL4 := GL4.grow g21
        replace GL19 := GL19.grow g21
        replace cc3 := cc3.grow g21
        replace BK := BK.grow g21
        have zg21 := g21.size
        have GS21 := Mod.refl (No) w21
        have BKd21 := BK
        refine Dq (i := 0) rfl GS21 (fun _ _ => Y_move rfl) ?_
        refine Dq (i := 1) rfl GS21 (fun _ _ => Y_nil rfl) ?_
        refine Dq (i := 2) rfl GS21 (fun _ _ => Y_field Try.underlying80 rfl fz80_2 (by decide) rfl) ?_
        refine Dq (i := 3) rfl GS21 (fun _ hs => Y_load Try.underlying23 rfl rfl (hs.cell0 (BK.at (by rfl)))) ?_
        refine Dq (i := 4) rfl GS21 (fun _ _ => Y_len Try.underlying23 rfl) ?_
        refine Dq (i := 5) rfl GS21 (fun _ _ => Y_move rfl) ?_
        refine Dq (i := 6) rfl GS21 (fun _ _ => Y_nil rfl) ?_
        refine Dq (i := 7) rfl GS21 (fun _ _ => Y_field Try.underlying80 rfl fz80_3 (by decide) rfl) ?_
        refine Dq (i := 8) rfl GS21 (fun _ hs => Y_load Try.underlying3 rfl rfl (hs.cell0 (BK.at (by rfl)))) ?_
        refine Dq (i := 9) rfl GS21 (fun _ _ => Y_lss rfl rfl) ?_
        refine D_en (by kernel_rfl) rfl rfl ?_
        refine th_n (hK23 _ _ ?_)
        clear hK23 K23
        refine S_if rfl (fun hb5 => ?_) (fun hb5 => ?_)  -- c7
        · -- c7T
         replace hb5 := nb_tt hb5
         rw [if_pos (by omega)] at hps
         refine Sb 99 rfl ?_  -- 10
         refine S_val (Y_move rfl) ?_
         refine S_val (Y_move rfl) ?_
         refine S_val (Y_nil rfl) ?_
         refine S_val (Y_field Try.underlying80 rfl fz80_2 (by decide) rfl) ?_
         refine S_val (Y_load Try.underlying23 rfl rfl (BK.at (by rfl))) ?_  -- l19
         refine S_val (Y_move rfl) ?_
         refine S_bs1 (cs := [_]) Try.underlying23 zr3 sz3 rfl rfl rfl ?_
         intro b22 w22 fb22 g22 B22
         have lb22 := B22.lt
         replace hA := hA.grow g22
         replace hE3 := hE3.grow g22
         replace O := O.grow g22
         replace G := G.grow g22
         replace GL4 := GL4.grow g22
         replace GL19 := GL19.grow g22
         replace cc3 := cc3.grow g22
         replace BK := BK.grow g22
         have zg22 := g22.size
         refine S_app Try.underlying23 zr3 sz3 by3 rfl rfl O rfl (Src.blk B22) (by simp [Value.oneCell']) (by omega) (Pr' := (fun i => bk < i)) (fun i hi => hi) (by omega) ?_
         intro A23 cap23 w23 X23 m23
         replace O := X23
         rw [ints_app] at O
         clear X23
         replace G := Mod.trans' G m23 (fun _ h _ => h) (fun i h hl => by first | exact h | omega | (dsimp only at h ⊢; omega))
         replace GL4 := GL4.trn m23
         replace GL19 := GL19.trn m23
         replace hA := hA.md m23
         replace hE3 := hE3.md m23
         replace cc3 := cc3.md m23
         replace BK := BK.md m23
         have zm23 := m23.size
         refine S_val (Y_nil rfl) ?_
         refine S_val (Y_field Try.underlying80 rfl fz80_2 (by decide) rfl) ?_
         refine S_stM (pre := [_, _, _]) (old := [_]) (post := [_]) (vs := [_]) sz23 rfl rfl rfl (by first | rfl | assumption) BK rfl rfl ?_
         intro w24 m24 X24
         replace BK := Blk.eq (ys := [_, _, _, _, _]) X24 rfl
         clear X24
         replace G := Mod.trans' G m24 (fun _ h _ => h) (fun i h hl => by first | exact h | omega | (dsimp only at h ⊢; omega))
         replace GL4 := GL4.trn m24
         replace GL19 := GL19.trn m24
         replace hA := hA.md m24
         replace hE3 := hE3.md m24
         replace O := O.md m24
         replace cc3 := cc3.md m24
         have zm24 := m24.size
         refine S_nl rfl rfl ?_
         refine ib_n ?_
         refine th_n (hK18 _ _ ?_)
         clear hK18 K18
         refine Sb 99 rfl ?_  -- 11
         refine S_val (Y_inc rfl rfl (by omega)) ?_
         refine S_val (Y_move rfl) ?_
         refine S_nl rfl rfl ?_
         refine th_n ?_
         go_roundw  -- e8 of L3
         case rel =>
          refine ⟨?_, GL19⟩
          first | exact ⟨j + 1, _, _, _, _, _, _, rfl, by omega, hps.symm, by first | exact hq2 | (rw [List.length_append, hq2]; rfl), ht3, BK, O⟩ | exact ⟨j + 1, _, _, _, _, _, _, rfl, by omega, hps.symm, hq2, ht2, BK, O⟩
         case measure =>
          exact dec_nat (by omega)
        · -- c7F
         replace hb5 := nb_tf hb5
         rw [if_neg (by omega)] at hps
         refine wp_skip ?_
         refine ib_n ?_
         refine th_n (hK18 _ _ ?_)
         clear hK18 K18
         refine Sb 99 rfl ?_  -- 11
         refine S_val (Y_inc rfl rfl (by omega)) ?_
         refine S_val (Y_move rfl) ?_
         refine S_nl rfl rfl ?_
         refine th_n ?_
         go_roundw  -- e9 of L3
         case rel =>
          refine ⟨?_, GL19⟩
          first | exact ⟨j + 1, _, _, _, _, _, _, rfl, by omega, hps.symm, by first | exact hq2 | (rw [List.length_append, hq2]; rfl), ht3, BK, O⟩ | exact ⟨j + 1, _, _, _, _, _, _, rfl, by omega, hps.symm, hq2, ht2, BK, O⟩
         case measure =>
          exact dec_nat (by omega)
     · -- c5F
      replace hb2 := nb_tf hb2
      rw [List.take_of_length_le (by omega)] at hst
      rw [← hst] at hD
      dsimp only at hD
      refine wp_exit ?_
      refine th_x ?_
      try clear GL19
      refine th_x ?_
      refine ib_e ?_
      refine ib_n ?_
      refine th_n ?_
      go_roundw  -- e10 of L1
      case rel =>
       refine ⟨?_, GL4⟩
       exact ⟨m2, q2, cap2, f1, A2, s2, t2, hq2, hwk2, by omega, by omega, hD, ht2, BK, O⟩
      case measure =>
       rw [hM, hL, natI_int (i := 2) BK rfl, natI_len (i := 3) BK rfl, hP, popc_eq ht2.2 hwk2.bnd]
       omega
  · -- c1F
   replace hb1 := nb_tf hb1
   have hwk0 : wk = [] := List.eq_nil_of_length_eq_zero (by omega)
   subst hwk0
   rw [drainF_nil] at hD
   rw [hD] at ht1
   obtain rfl : q = 0 := hq
   refine wp_exit ?_
   refine th_x ?_
   try clear GL4
   refine th_x ?_
   refine ib_e ?_
   clear hK2 K2
   refine ret_n0 rfl ?_  -- r1
   exact ⟨_, _, _, ht1, BK, O, G⟩
set_option maxHeartbeats 400000 in
set_option maxRecDepth 20000 in
theorem impl_marker_open_c (A B A1 : Option Addr) (h : LH) (c d n pl bk lo m cap : Nat) (s : List Int) (w : World) (hA : RC (fun k => k < lo) w A h.cells) (hz : hsize h ≤ 1048576) (hl : Leads h.cells h.roots nn) (hN : h.cells.length ≤ 64) (BK : Blk w bk 80 [.slice A h.cells.length c, .slice B h.roots.length d, .int .u64 (m : Int), .slice A1 0 cap, .int .i64 (pl : Int)].toArray) (hs : BitsOf m s) (hn : n < h.cells.length) :
    Calls Try.prog 103 #[.pointer (some ⟨bk, 0, none⟩), .int .i64 (n : Int)] w (Ret fun v w' => v = .bool (openB h.cells s n) ∧ Grow w w') := by
 have hz1 := hsize_cells h
 have hz2 := hsize_roots h
 have hz3 : ∀ k (hk : k < h.cells.length), h.cells[k].refs.length ≤ hsize h := fun k hk => hsize_refs h hk
 have hm1 := hs.1
 have hr1 := hsize_refs h hn
 refine enter Try.func103 rfl Try.ntmps103 (L := [_,_,_,_,_,_,_,_,_,_,_,_,_,_,_,_,_,_,_,_,_,_,_,_,_,_,_,_,_,_,_,_,_,_,_,_,_,_,_,_]) rfl ?_
 have G := Mod.refl No w
 obtain ⟨g2, o2, E2, d2, rfl, hp2, cc2, hE2⟩ := hA.cell hn
 refine wp_seq_k fun K1 hK1 => ?_
 refine Sb 40 rfl ?_  -- 0
 refine S_val (Y_assign rfl) ?_
 refine S_nl rfl rfl ?_
 refine th_n (hK1 _ _ ?_)
 clear hK1 K1
 refine wp_seq_k fun K2 hK2 => ?_
 refine wp_seq_k fun K3 hK3 => ?_
 refine Sb 40 rfl ?_  -- 1
 refine S_val (Y_move rfl) ?_
 refine S_val (Y_nil rfl) ?_
 refine S_val (Y_field Try.underlying80 rfl fz80_1 (by decide) rfl) ?_
 refine S_val (Y_load Try.underlying78 rfl rfl (BK.at (by rfl))) ?_  -- l1
 refine S_val (Y_move rfl) ?_
 refine S_call rfl en58 (impl_cellSet_has_c _ _ _ (by assumption)) ?_  -- k1 (impl.cellSet).has
 rintro v w' ⟨rfl, hww⟩
 rw [hww]
 clear hww w'
 refine S_val (Y_not rfl) ?_
 refine S_nl rfl rfl ?_
 refine th_n (hK3 _ _ ?_)
 clear hK3 K3
 refine S_if rfl (fun hb1 => ?_) (fun hb1 => ?_)  -- c1
 · -- c1T
  first | with_reducible (replace hb1 := nb_nt hb1) | with_reducible (replace hb1 := nb_tt hb1) | with_reducible (replace hb1 := nb_bt hb1) | skip
  have hno1 : (n : Int) ∉ s := by rw [hasB_nat, hs.2] at hb1; exact of_decide_eq_false hb1
  refine wp_seq_k fun K4 hK4 => ?_
  refine Sb 40 rfl ?_  -- 2
  refine S_val (Y_assign rfl) ?_
  refine S_nl rfl rfl ?_
  refine th_n (hK4 _ _ ?_)
  clear hK4 K4
  refine wp_ret ?_
  refine th_r ?_
  clear hK2 K2
  refine ret_r1 rfl rfl ?_  -- r1
  first | exact ⟨by rw [hop], G⟩ | exact ⟨by rw [openB_f1 hno1], G⟩ | (rw [List.take_of_length_le (by omega)] at hno; exact ⟨by rw [openB_f2 (by rw [refsOf_at hn]; exact hno)], G⟩)
 · -- c1F
  first | with_reducible (replace hb1 := nb_nf hb1) | with_reducible (replace hb1 := nb_tf hb1) | with_reducible (replace hb1 := nb_bf hb1) | skip
  have hin : (n : Int) ∈ s := by rw [hasB_nat, hs.2] at hb1; exact of_decide_eq_true hb1
  refine wp_skip ?_
  refine th_n (hK2 _ _ ?_)
  clear hK2 K2
  refine wp_seq_k fun K5 hK5 => ?_
  refine wp_seq_k fun K6 hK6 => ?_
  refine Sb 40 rfl ?_  -- 3
  refine S_val (Y_move rfl) ?_
  refine S_val (Y_nil rfl) ?_
  refine S_val (Y_field Try.underlying80 rfl fz80_0 (by decide) rfl) ?_
  refine S_val (Y_field Try.underlying32 rfl fz32_0 (by decide) rfl) ?_
  refine S_val (Y_load Try.underlying30 rfl rfl (BK.at (by rfl))) ?_  -- l2
  refine S_val (Y_move rfl) ?_
  refine S_val (Y_index Try.underlying30 sz63 rfl rfl (by first | assumption | omega)) ?_
  refine S_val (Y_field Try.underlying63 rfl fz63_2 (by decide) rfl) ?_
  refine S_val (Y_load Try.underlying23 rfl rfl (by first | assumption | exact BK.at (by rfl) | exact cc2.at (by rfl))) ?_  -- l3
  refine S_val (Y_len Try.underlying23 rfl) ?_
  refine S_val (Y_move rfl) ?_
  refine S_nl rfl rfl ?_
  refine th_n (hK6 _ _ ?_)
  clear hK6 K6
  refine wp_block ?_
  go_loopw [24] (fun u24 wr => (∃ j : Nat, u24 = .int .i64 j ∧ j ≤ h.cells[n].refs.length ∧ (h.cells[n].refs.take j).any (opR s) = false) ∧ Mod No w wr) (fun u24 wr => h.cells[n].refs.length - (intOf u24).toNat)  -- L1
  case atStart =>
   refine ⟨?_, Mod.refl _ _⟩
   exact ⟨0, rfl, by omega, rfl⟩
  case round =>
   obtain ⟨w1, rfl⟩ : ∃ x : World, x = wr := ⟨_, rfl⟩
   obtain ⟨hrel, g1⟩ := hrel
   replace hA := hA.grow g1
   replace hE2 := hE2.grow g1
   replace G := G.grow g1
   replace BK := BK.grow g1
   replace cc2 := cc2.grow g1
   have zg1 := g1.size
   obtain ⟨j, rfl, hj, hno⟩ := hrel
   have GL1 := g1
   refine wp_seq_k fun K7 hK7 => ?_
   refine Sb 40 rfl ?_  -- 4
   refine S_val (Y_lss rfl rfl) ?_
   refine S_nl rfl rfl ?_
   refine th_n (hK7 _ _ ?_)
   clear hK7 K7
   refine wp_seq_k fun K8 hK8 => ?_
   refine S_if rfl (fun hb2 => ?_) (fun hb2 => ?_)  -- c2
   · -- c2T
    replace hb2 := nb_tt hb2
    have hj1 : j < h.cells[n].refs.length := by omega
    obtain ⟨g4, o4, rfl, hp4, hc4⟩ := hE2.int hj1
    refine wp_skip ?_
    refine th_n (hK8 _ _ ?_)
    clear hK8 K8
    refine wp_seq_k fun K9 hK9 => ?_
    refine wp_block ?_
    refine wp_seq_k fun K10 hK10 => ?_
    refine Sb 40 rfl ?_  -- 5
    refine S_val (Y_index Try.underlying23 sz3 rfl rfl (by first | assumption | omega)) ?_
    refine S_val (Y_load Try.underlying3 rfl rfl (by first | assumption | exact BK.at (by rfl) | exact cc2.at (by rfl))) ?_  -- l4
    refine S_val (Y_assign rfl) ?_
    refine S_nl rfl rfl ?_
    refine th_n (hK10 _ _ ?_)
    clear hK10 K10
    refine wp_seq_k fun K11 hK11 => ?_
    refine Sb 40 rfl ?_  -- 6
    refine S_val (Y_move rfl) ?_
    refine S_val (Y_geq rfl rfl) ?_
    refine S_val (Y_move rfl) ?_
    refine S_g 30 rfl (fun hb3 => ?_) (fun hb3 => ?_)  -- g1
    · -- g1T
     replace hb3 := nb_tt hb3
     obtain ⟨k2, hm, hmN⟩ := ref_at (hl.refs hn) hj1 hb3
     rw [hm]
     refine S_on rfl rfl ?_
     refine S_val (Y_move rfl) ?_
     refine S_on rfl rfl ?_
     refine S_val (Y_nil rfl) ?_
     refine S_on rfl rfl ?_
     refine S_val (Y_field Try.underlying80 rfl fz80_1 (by decide) rfl) ?_
     refine S_on rfl rfl ?_
     refine S_val (Y_load Try.underlying78 rfl rfl (BK.at (by rfl))) ?_  -- l5
     refine S_on rfl rfl ?_
     refine S_val (Y_move rfl) ?_
     refine S_on rfl rfl ?_
     refine S_call rfl en58 (impl_cellSet_has_c _ _ _ (by assumption)) ?_  -- k2 (impl.cellSet).has
     rintro v w' ⟨rfl, hww⟩
     rw [hww]
     clear hww w'
     refine S_on rfl rfl ?_
     refine S_val (Y_not rfl) ?_
     refine S_val (Y_pickT rfl rfl) ?_
     refine S_nl rfl rfl ?_
     refine th_n (hK11 _ _ ?_)
     clear hK11 K11
     refine S_if rfl (fun hb4 => ?_) (fun hb4 => ?_)  -- c3
     · -- c3T
      first | with_reducible (replace hb4 := nb_nt hb4) | with_reducible (replace hb4 := nb_tt hb4) | with_reducible (replace hb4 := nb_bt hb4) | skip
      rw [hasB_nat, hs.2] at hb4
      have hop : openB h.cells s n = true := openB_t (r := h.cells[n].refs[j]) hin (by rw [refsOf_at hn]; exact List.getElem_mem hj1) (by rw [hm]; simp [opR]; exact of_decide_eq_false hb4)
      refine wp_seq_k fun K12 hK12 => ?_
      refine Sb 40 rfl ?_  -- 7
      refine S_val (Y_assign rfl) ?_
      refine S_nl rfl rfl ?_
      refine th_n (hK12 _ _ ?_)
      clear hK12 K12
      refine wp_ret ?_
      refine ib_r ?_
      refine th_r ?_
      try clear GL1
      refine th_r ?_
      refine ib_r ?_
      refine th_r ?_
      clear hK9 K9 hK5 K5
      refine ret_r1 rfl rfl ?_  -- r2
      first | exact ⟨by rw [hop], G⟩ | exact ⟨by rw [openB_f1 hno1], G⟩ | (rw [List.take_of_length_le (by omega)] at hno; exact ⟨by rw [openB_f2 (by rw [refsOf_at hn]; exact hno)], G⟩)
     · -- c3F
      first | with_reducible (replace hb4 := nb_nf hb4) | with_reducible (replace hb4 := nb_tf hb4) | with_reducible (replace hb4 := nb_bf hb4) | skip
      rw [hasB_nat, hs.2] at hb4
      have hin2 := of_decide_eq_true hb4
      refine wp_skip ?_
      refine ib_n ?_
      refine th_n (hK9 _ _ ?_)
      clear hK9 K9
      refine Sb 40 rfl ?_  -- 8
      refine S_val (Y_inc rfl rfl (by omega)) ?_
      refine S_val (Y_move rfl) ?_
      refine S_nl rfl rfl ?_
      refine th_n ?_
      go_roundw  -- e1 of L1
      case rel =>
       refine ⟨?_, GL1⟩
       first | exact ⟨j + 1, rfl, by omega, any_take (List.getElem?_eq_getElem hj1) hno (by rw [hm]; simp [opR]; exact hin2)⟩ | exact ⟨j + 1, rfl, by omega, any_take (List.getElem?_eq_getElem hj1) hno (by unfold opR; rw [decide_eq_false (by omega)]; rfl)⟩
      case measure =>
       exact dec_nat (by omega)
    · -- g1F
     replace hb3 := nb_tf hb3
     refine S_off rfl rfl ?_
     refine S_off rfl rfl ?_
     refine S_off rfl rfl ?_
     refine S_off rfl rfl ?_
     refine S_off rfl rfl ?_
     refine S_off rfl rfl ?_
     refine S_off rfl rfl ?_
     refine S_val (Y_pickF rfl rfl) ?_
     refine S_nl rfl rfl ?_
     refine th_n (hK11 _ _ ?_)
     clear hK11 K11
     refine S_ifF rfl ?_
     refine wp_skip ?_
     refine ib_n ?_
     refine th_n (hK9 _ _ ?_)
     clear hK9 K9
     refine Sb 40 rfl ?_  -- 8
     refine S_val (Y_inc rfl rfl (by omega)) ?_
     refine S_val (Y_move rfl) ?_
     refine S_nl rfl rfl ?_
     refine th_n ?_
     go_roundw  -- e2 of L1
     case rel =>
      refine ⟨?_, GL1⟩
      first | exact ⟨j + 1, rfl, by omega, any_take (List.getElem?_eq_getElem hj1) hno (by rw [hm]; simp [opR]; exact hin2)⟩ | exact ⟨j + 1, rfl, by omega, any_take (List.getElem?_eq_getElem hj1) hno (by unfold opR; rw [decide_eq_false (by omega)]; rfl)⟩
     case measure =>
      exact dec_nat (by omega)
   · -- c2F
    replace hb2 := nb_tf hb2
    refine wp_exit ?_
    refine th_x ?_
    try clear GL1
    refine th_x ?_
    refine ib_e ?_
    refine th_n (hK5 _ _ ?_)
    clear hK8 K8 hK5 K5
    refine wp_seq_k fun K13 hK13 => ?_
    refine Sb 40 rfl ?_  -- 9
    refine S_val (Y_assign rfl) ?_
    refine S_nl rfl rfl ?_
    refine th_n (hK13 _ _ ?_)
    clear hK13 K13
    refine wp_ret ?_
    refine ret_r1 rfl rfl ?_  -- r3
    first | exact ⟨by rw [hop], G⟩ | exact ⟨by rw [openB_f1 hno1], G⟩ | (rw [List.take_of_length_le (by omega)] at hno; exact ⟨by rw [openB_f2 (by rw [refsOf_at hn]; exact hno)], G⟩)
set_option maxHeartbeats 1000000 in
set_option maxRecDepth 20000 in
theorem impl_marker_again_c (A B A1 : Option Addr) (h : LH) (c d n pl bk lo m cap : Nat) (s : List Int) (w : World) (hA : RC (fun k => k < lo) w A h.cells) (hz : hsize h ≤ 1048576) (hl : Leads h.cells h.roots nn) (hN : h.cells.length ≤ 64) (BK : Blk w bk 80 [.slice A h.cells.length c, .slice B h.roots.length d, .int .u64 (m : Int), .slice A1 0 cap, .int .i64 (pl : Int)].toArray) (O : OW (fun i => bk < i) w 3 1 A1 0 cap (ints [])) (hs : BitsOf m s) (hb : Bnd h.cells.length s) (hlo : lo ≤ bk) (hpl : pl ≤ 40) :
    Calls Try.prog 61 #[.pointer (some ⟨bk, 0, none⟩)] w (Ret fun v w' => ∃ m2 cap2 A2, v = .bool (anyB h.cells s) ∧ BitsOf m2 (passL h.cells pl s h.cells.length) ∧ Blk w' bk 80 [.slice A h.cells.length c, .slice B h.roots.length d, .int .u64 (m2 : Int), .slice A2 0 cap2, .int .i64 (pl : Int)].toArray ∧ OW (fun i => bk < i) w' 3 1 A2 0 cap2 (ints []) ∧ Mod (fun i => bk ≤ i) w w') := by
 have hz1 := hsize_cells h
 have hz2 := hsize_roots h
 have hz3 : ∀ k (hk : k < h.cells.length), h.cells[k].refs.length ≤ hsize h := fun k hk => hsize_refs h hk
 have lbk := BK.lt
 refine enter Try.func61 rfl Try.ntmps61 (L := [_,_,_,_,_,_,_,_,_,_,_,_,_,_,_,_,_,_,_,_,_,_]) rfl ?_
 have G := Mod.refl (fun i => bk ≤ i) w
 refine wp_seq_k fun K1 hK1 => ?_
 refine Sb 22 rfl ?_  -- 0
 refine S_val (Y_assign rfl) ?_
 refine S_nl rfl rfl ?_
 refine th_n (hK1 _ _ ?_)
 clear hK1 K1
 refine wp_seq_k fun K2 hK2 => ?_
 refine Sb 22 rfl ?_  -- 1
 refine S_val (Y_assign rfl) ?_
 refine S_nl rfl rfl ?_
 refine th_n (hK2 _ _ ?_)
 clear hK2 K2
 refine wp_seq_k fun K3 hK3 => ?_
 refine wp_seq_k fun K4 hK4 => ?_
 refine Sb 22 rfl ?_  -- 2
 refine S_val (Y_move rfl) ?_
 refine S_val (Y_nil rfl) ?_
 refine S_val (Y_field Try.underlying80 rfl fz80_0 (by decide) rfl) ?_
 refine S_val (Y_field Try.underlying32 rfl fz32_0 (by decide) rfl) ?_
 refine S_val (Y_load Try.underlying30 rfl rfl (BK.at (by rfl))) ?_  -- l1
 refine S_val (Y_len Try.underlying30 rfl) ?_
 refine S_val (Y_move rfl) ?_
 refine S_nl rfl rfl ?_
 refine th_n (hK4 _ _ ?_)
 clear hK4 K4
 refine wp_block ?_
 go_loopw [3, 11] (fun u3 u11 wr => (∃ (k m2 cap : Nat) (A1 : Option Addr), u11 = .int .i64 k ∧ u3 = .bool (decide (s.length < (passL h.cells pl s k).length)) ∧ k ≤ h.cells.length ∧ BitsOf m2 (passL h.cells pl s k) ∧ Blk wr bk 80 [.slice A h.cells.length c, .slice B h.roots.length d, .int .u64 (m2 : Int), .slice A1 0 cap, .int .i64 (pl : Int)].toArray ∧ OW (fun i => bk < i) wr 3 1 A1 0 cap (ints [])) ∧ Mod (fun i => bk ≤ i) w wr) (fun u3 u11 wr => h.cells.length - (intOf u11).toNat)  -- L1
 case atStart =>
  refine ⟨?_, Mod.refl _ _⟩
  exact ⟨0, m, cap, A1, rfl, by simp [passL_zero], by omega, hs, BK, O⟩
 case round =>
  obtain ⟨w1, rfl⟩ : ∃ x : World, x = wr := ⟨_, rfl⟩
  obtain ⟨hrel, g1⟩ := hrel
  clear BK
  clear O
  replace G := Mod.trans' G g1 (fun _ h _ => h) (fun i h hl => by first | exact h | omega | (dsimp only at h ⊢; omega))
  replace hA := hA.md g1
  have zg1 := g1.size
  obtain ⟨k, m1, cap1, A1, rfl, rfl, hk, ht1, BK, O⟩ := hrel
  have hpb := passL_bnd hl (pl := pl) (k := k) hb
  have hple := passL_le (cs := h.cells) (pl := pl) (k := k) (s := s)
  have GL1 := g1
  refine wp_seq_k fun K5 hK5 => ?_
  refine Sb 22 rfl ?_  -- 3
  refine S_val (Y_lss rfl rfl) ?_
  refine S_nl rfl rfl ?_
  refine th_n (hK5 _ _ ?_)
  clear hK5 K5
  refine wp_seq_k fun K6 hK6 => ?_
  refine S_if rfl (fun hb1 => ?_) (fun hb1 => ?_)  -- c1
  · -- c1T
   replace hb1 := nb_tt hb1
   have hk1 : k < h.cells.length := by omega
   have hps := passL_succ h.cells pl s k
   refine wp_skip ?_
   refine th_n (hK6 _ _ ?_)
   clear hK6 K6
   refine wp_seq_k fun K7 hK7 => ?_
   refine wp_block ?_
   refine wp_seq_k fun K8 hK8 => ?_
   refine Sb 22 rfl ?_  -- 4
   refine S_val (Y_move rfl) ?_
   refine S_val (Y_assign rfl) ?_
   refine S_nl rfl rfl ?_
   refine th_n (hK8 _ _ ?_)
   clear hK8 K8
   refine wp_seq_k fun K9 hK9 => ?_
   refine Sb 22 rfl ?_  -- 5
   refine S_val (Y_move rfl) ?_
   refine S_val (Y_move rfl) ?_
   refine S_call rfl en103 (impl_marker_open_c _ _ A1 h _ _ k pl bk lo m1 cap1 (passL h.cells pl s k) _ hA (by omega) hl (by omega) BK ht1 hk1) ?_  -- k1 (*impl.marker).open
   rintro v2 w2 ⟨rfl, g2⟩
   replace hA := hA.grow g2
   replace O := O.grow g2
   replace G := G.grow g2
   replace GL1 := GL1.grow g2
   replace BK := BK.grow g2
   have zg2 := g2.size
   refine S_nl rfl rfl ?_
   refine th_n (hK9 _ _ ?_)
   clear hK9 K9
   refine S_if rfl (fun hb2 => ?_) (fun hb2 => ?_)  -- c2
   · -- c2T
    first | with_reducible (replace hb2 := nb_nt hb2) | with_reducible (replace hb2 := nb_tt hb2) | with_reducible (replace hb2 := nb_bt hb2) | skip
    rw [pass1_t hb2] at hps
    have hin := (openB_some hb2).1
    have hgr := drain_grow (pl := pl) hb2
    refine wp_seq_k fun K10 hK10 => ?_
    refine Sb 22 rfl ?_  -- 6
    refine S_val (Y_assign rfl) ?_
    refine S_nl rfl rfl ?_
    refine th_n (hK10 _ _ ?_)
    clear hK10 K10
    refine Sb 22 rfl ?_  -- 7
    refine S_val (Y_move rfl) ?_
    refine S_val (Y_move rfl) ?_
    refine S_call rfl en60 (impl_marker_work_c _ _ A1 h _ _ k pl bk lo m1 cap1 (passL h.cells pl s k) _ hA (by omega) hl (by omega) BK O ht1 hpb hin hlo hpl) ?_  -- k2 (*impl.marker).work
    rintro v3 w3 ⟨m3, cap3, A3, ht3, X3, Y3, m3⟩
    replace BK := X3
    replace O := Y3
    clear X3 Y3
    replace G := Mod.trans' G m3 (fun _ h _ => h) (fun i h hl => by first | exact h | omega | (dsimp only at h ⊢; omega))
    replace GL1 := GL1.trn m3
    replace hA := hA.md m3
    have zm3 := m3.size
    refine S_nl rfl rfl ?_
    refine ib_n ?_
    refine th_n (hK7 _ _ ?_)
    clear hK7 K7
    refine Sb 22 rfl ?_  -- 8
    refine S_val (Y_inc rfl rfl (by omega)) ?_
    refine S_val (Y_move rfl) ?_
    refine S_nl rfl rfl ?_
    refine th_n ?_
    go_roundw  -- e1 of L1
    case rel =>
     refine ⟨?_, GL1⟩
     first | exact ⟨k + 1, _, _, _, rfl, by rw [hps]; exact (congrArg Value.bool (decide_eq_true (by omega))).symm, by omega, by rw [hps]; exact ht3, BK, O⟩ | exact ⟨k + 1, _, _, _, rfl, by rw [hps], by omega, by rw [hps]; exact ht1, BK, O⟩
    case measure =>
     exact dec_nat (by omega)
   · -- c2F
    first | with_reducible (replace hb2 := nb_nf hb2) | with_reducible (replace hb2 := nb_tf hb2) | with_reducible (replace hb2 := nb_bf hb2) | skip
    rw [pass1_f hb2] at hps
    refine wp_skip ?_
    refine ib_n ?_
    refine th_n (hK7 _ _ ?_)
    clear hK7 K7
    refine Sb 22 rfl ?_  -- 8
    refine S_val (Y_inc rfl rfl (by omega)) ?_
    refine S_val (Y_move rfl) ?_
    refine S_nl rfl rfl ?_
    refine th_n ?_
    go_roundw  -- e2 of L1
    case rel =>
     refine ⟨?_, GL1⟩
     first | exact ⟨k + 1, _, _, _, rfl, by rw [hps]; exact (congrArg Value.bool (decide_eq_true (by omega))).symm, by omega, by rw [hps]; exact ht3, BK, O⟩ | exact ⟨k + 1, _, _, _, rfl, by rw [hps], by omega, by rw [hps]; exact ht1, BK, O⟩
    case measure =>
     exact dec_nat (by omega)
  · -- c1F
   replace hb1 := nb_tf hb1
   have hkN : k = h.cells.length := by omega
   subst hkN
   have hnd := pass_needed (cs := h.cells) (pl := pl) (s := s)
   refine wp_exit ?_
   refine th_x ?_
   try clear GL1
   refine th_x ?_
   refine ib_e ?_
   refine th_n (hK3 _ _ ?_)
   clear hK6 K6 hK3 K3
   refine wp_seq_k fun K11 hK11 => ?_
   refine Sb 22 rfl ?_  -- 9
   refine S_val (Y_move rfl) ?_
   refine S_val (Y_assign rfl) ?_
   refine S_nl rfl rfl ?_
   refine th_n (hK11 _ _ ?_)
   clear hK11 K11
   refine wp_ret ?_
   refine ret_r1 rfl rfl ?_  -- r1
   exact ⟨_, _, _, by rw [hnd], ht1, BK, O, G⟩
set_option maxHeartbeats 1000000 in
set_option maxRecDepth 20000 in
theorem impl_MarkBounded_c (Pr : Nat → Prop) (A B : Option Addr) (h : LH) (c d : Nat) (x : Int) (w : World) (hA : RC Pr w A h.cells) (hB : R1 Pr w B (ints h.roots)) (hz : hsize h ≤ 1048576) :
    Calls Try.prog 14 #[.agg #[.slice A h.cells.length c, .slice B h.roots.length d], .int .i64 x] w (Ret fun v w' => ∃ A1 q cap, v = .tuple #[.slice A1 q cap, .int .i64 (boundV h x).2] ∧ q = (boundV h x).1.length ∧ OI (fun i => w.heap.size ≤ i) w' 4 A1 (bools (boundV h x).1) ∧ Grow w w') := by
 have hz1 := hsize_cells h
 have hz2 := hsize_roots h
 have hz3 : ∀ k (hk : k < h.cells.length), h.cells[k].refs.length ≤ hsize h := fun k hk => hsize_refs h hk
 have hAl := hA.below
 have hBl := hB.below
 refine enter Try.func14 rfl Try.ntmps14 (L := [_,_,_,_,_,_,_,_,_,_,_,_,_,_,_,_,_,_,_,_,_,_,_,_,_,_,_,_,_,_,_,_,_,_,_,_,_,_,_,_,_,_,_,_,_,_,_,_,_,_,_,_,_,_,_,_,_,_,_,_,_,_,_,_,_]) rfl ?_
 have G := Mod.refl No w
 have hAl0 := hAl
 have hBl0 := hBl
 refine wp_seq_k fun K1 hK1 => ?_
 refine Sb 65 rfl ?_  -- 0
 refine S_box (cs := [_, _]) rfl rfl ?_
 intro b1 w1 fb1 g1 B1
 have lb1 := B1.lt
 replace hAl := hAl.grow g1
 replace hBl := hBl.grow g1
 replace G := G.grow g1
 have zg1 := g1.size
 refine S_val (Y_assign rfl) ?_
 refine S_val (Y_assign rfl) ?_
 refine S_nl rfl rfl ?_
 refine th_n (hK1 _ _ ?_)
 clear hK1 K1
 refine wp_seq_k fun K2 hK2 => ?_
 refine wp_seq_k fun K3 hK3 => ?_
 refine Sb 65 rfl ?_  -- 1
 refine S_val (Y_loadS Try.underlying32 rfl sz32 rfl (B1.row (by rfl))) ?_  -- l1
 refine S_call rfl en41 (impl_HeapValid_c _ _ _ _ _ _ _ (by assumption) (by assumption) (by omega)) ?_  -- k1 impl.HeapValid
 rintro v2 w2 ⟨rfl, g2⟩
 replace hAl := hAl.grow g2
 replace hBl := hBl.grow g2
 replace G := G.grow g2
 replace B1 := B1.grow g2
 have zg2 := g2.size
 refine S_val (Y_not rfl) ?_
 refine S_val (Y_move rfl) ?_
 refine S_g 13 rfl (fun hb1 => ?_) (fun hb1 => ?_)  -- g1
 · -- g1T
  first | with_reducible (replace hb1 := nb_nt hb1) | with_reducible (replace hb1 := nb_tt hb1) | with_reducible (replace hb1 := nb_bt hb1) | skip
  have hsv := boundV_f1 (x := x) hb1
  refine S_off rfl rfl ?_
  refine S_off rfl rfl ?_
  refine S_val (Y_pickT rfl rfl) ?_
  refine S_val (Y_move rfl) ?_
  refine S_off rfl rfl ?_
  refine S_off rfl rfl ?_
  refine S_val (Y_pickT rfl rfl) ?_
  refine S_nl rfl rfl ?_
  refine th_n (hK3 _ _ ?_)
  clear hK3 K3
  refine S_ifT rfl ?_
  refine wp_seq_k fun K4 hK4 => ?_
  refine Sb 65 rfl ?_  -- 2
  refine S_val (Y_assign rfl) ?_
  refine S_val (Y_assign rfl) ?_
  refine S_nl rfl rfl ?_
  refine th_n (hK4 _ _ ?_)
  clear hK4 K4
  refine wp_ret ?_
  refine th_r ?_
  clear hK2 K2
  refine ret_r2 rfl rfl rfl ?_  -- r1
  first | exact ⟨_, _, _, by rw [hsv], by rw [hsv]; rfl, by rw [hsv]; exact OI.nil _ _ _ _, G⟩ | exact ⟨_, _, _, by rw [hsv, ← hd2], by rw [hsv]; exact (mB_len _ _).symm, by rw [hsv]; exact OI.of_blk' (by assumption) (by omega), G⟩
 · -- g1F
  first | with_reducible (replace hb1 := nb_nf hb1) | with_reducible (replace hb1 := nb_tf hb1) | with_reducible (replace hb1 := nb_bf hb1) | skip
  have hv9 := hb1
  have va := valid_iff.1 hv9
  have hl := va.leads
  have h40 := va.le
  have hr4 := va.roots4
  refine S_on rfl rfl ?_
  refine S_val (Y_move rfl) ?_
  refine S_on rfl rfl ?_
  refine S_val (Y_lss rfl rfl) ?_
  refine S_val (Y_pickF rfl rfl) ?_
  refine S_val (Y_move rfl) ?_
  refine S_g 17 rfl (fun hb2 => ?_) (fun hb2 => ?_)  -- g2
  · -- g2T
   first | with_reducible (replace hb2 := nb_nt hb2) | with_reducible (replace hb2 := nb_tt hb2) | with_reducible (replace hb2 := nb_bt hb2) | skip
   first | (have hsv := boundV_f2 (h := h) (x := x) (by omega)) | skip
   refine S_off rfl rfl ?_
   refine S_off rfl rfl ?_
   refine S_val (Y_pickT rfl rfl) ?_
   refine S_nl rfl rfl ?_
   refine th_n (hK3 _ _ ?_)
   clear hK3 K3
   refine S_ifT rfl ?_
   refine wp_seq_k fun K5 hK5 => ?_
   refine Sb 65 rfl ?_  -- 2
   refine S_val (Y_assign rfl) ?_
   refine S_val (Y_assign rfl) ?_
   refine S_nl rfl rfl ?_
   refine th_n (hK5 _ _ ?_)
   clear hK5 K5
   refine wp_ret ?_
   refine th_r ?_
   clear hK2 K2
   refine ret_r2 rfl rfl rfl ?_  -- r2
   first | exact ⟨_, _, _, by rw [hsv], by rw [hsv]; rfl, by rw [hsv]; exact OI.nil _ _ _ _, G⟩ | exact ⟨_, _, _, by rw [hsv, ← hd2], by rw [hsv]; exact (mB_len _ _).symm, by rw [hsv]; exact OI.of_blk' (by assumption) (by omega), G⟩
  · -- g2F
   first | with_reducible (replace hb2 := nb_nf hb2) | with_reducible (replace hb2 := nb_tf hb2) | with_reducible (replace hb2 := nb_bf hb2) | skip
   refine S_on rfl rfl ?_
   refine S_val (Y_move rfl) ?_
   refine S_on rfl rfl ?_
   refine S_val (Y_gtr rfl rfl) ?_
   refine S_val (Y_pickF rfl rfl) ?_
   refine S_nl rfl rfl ?_
   refine th_n (hK3 _ _ ?_)
   clear hK3 K3
   refine S_if rfl (fun hb3 => ?_) (fun hb3 => ?_)  -- c1
   · -- c1T
    first | with_reducible (replace hb3 := nb_nt hb3) | with_reducible (replace hb3 := nb_tt hb3) | with_reducible (replace hb3 := nb_bt hb3) | skip
    first | (have hsv := boundV_f2 (h := h) (x := x) (by omega)) | skip
    refine wp_seq_k fun K6 hK6 => ?_
    refine Sb 65 rfl ?_  -- 2
    refine S_val (Y_assign rfl) ?_
    refine S_val (Y_assign rfl) ?_
    refine S_nl rfl rfl ?_
    refine th_n (hK6 _ _ ?_)
    clear hK6 K6
    refine wp_ret ?_
    refine th_r ?_
    clear hK2 K2
    refine ret_r2 rfl rfl rfl ?_  -- r3
    first | exact ⟨_, _, _, by rw [hsv], by rw [hsv]; rfl, by rw [hsv]; exact OI.nil _ _ _ _, G⟩ | exact ⟨_, _, _, by rw [hsv, ← hd2], by rw [hsv]; exact (mB_len _ _).symm, by rw [hsv]; exact OI.of_blk' (by assumption) (by omega), G⟩
   · -- c1F
    first | with_reducible (replace hb3 := nb_nf hb3) | with_reducible (replace hb3 := nb_tf hb3) | with_reducible (replace hb3 := nb_bf hb3) | skip
    obtain ⟨pl, rfl⟩ := Int.eq_ofNat_of_zero_le (show 0 ≤ x by omega)
    have hp1 : 1 ≤ pl := by omega
    have hp40 : pl ≤ 40 := by omega
    have hsv := boundV_t hv9 hp1 hp40
    refine wp_skip ?_
    refine th_n (hK2 _ _ ?_)
    clear hK2 K2
    refine wp_seq_k fun K7 hK7 => ?_
    refine Sb 65 rfl ?_  -- 3
    refine S_val (Y_loadS Try.underlying32 rfl sz32 rfl (B1.row (by rfl))) ?_  -- l2
    refine S_val (Y_move rfl) ?_
    refine S_val (Y_build (cs := [_, _, _, _, _]) zr80 pc80 rfl rfl) ?_
    refine S_box (cs := [_, _, _, _, _]) rfl rfl ?_
    intro b3 w3 fb3 g3 B3
    have lb3 := B3.lt
    replace hAl := hAl.grow g3
    replace hBl := hBl.grow g3
    replace G := G.grow g3
    replace B1 := B1.grow g3
    have zg3 := g3.size
    obtain ⟨bk, rfl⟩ : ∃ x, x = b3 := ⟨_, rfl⟩
    have BK : Blk w3 bk 80 [.slice A h.cells.length c, .slice B h.roots.length d, .int .u64 (0 : Int), .slice none 0 0, .int .i64 (pl : Int)].toArray := B3
    have OS : OW (fun i => bk < i) w3 3 1 none 0 0 (ints []) := OW.nil _ _ _ _
    refine S_val (Y_assign rfl) ?_
    refine S_nl rfl rfl ?_
    refine th_n (hK7 _ _ ?_)
    clear hK7 K7
    refine wp_seq_k fun K8 hK8 => ?_
    refine wp_seq_k fun K9 hK9 => ?_
    refine Sb 65 rfl ?_  -- 4
    refine S_val (Y_field Try.underlying32 rfl fz32_1 (by decide) rfl) ?_
    refine S_val (Y_load Try.underlying23 rfl rfl (B1.at (by rfl))) ?_  -- l3
    refine S_val (Y_len Try.underlying23 rfl) ?_
    refine S_val (Y_move rfl) ?_
    refine S_nl rfl rfl ?_
    refine th_n (hK9 _ _ ?_)
    clear hK9 K9
    refine wp_block ?_
    go_loopw [28] (fun u28 wr => (∃ (k m cS : Nat) (AS : Option Addr), u28 = .int .i64 k ∧ k ≤ h.roots.length ∧ BitsOf m (rootsL h.cells pl (h.roots.take k)) ∧ Blk wr bk 80 [.slice A h.cells.length c, .slice B h.roots.length d, .int .u64 (m : Int), .slice AS 0 cS, .int .i64 (pl : Int)].toArray ∧ OW (fun i => bk < i) wr 3 1 AS 0 cS (ints [])) ∧ Mod (fun i => bk ≤ i) w3 wr) (fun u28 wr => h.roots.length - (intOf u28).toNat)  -- L1
    case atStart =>
     refine ⟨?_, Mod.refl _ _⟩
     exact ⟨0, 0, 0, none, rfl, by omega, BitsOf.zero, BK, OS⟩
    case round =>
     obtain ⟨w4, rfl⟩ : ∃ x : World, x = wr := ⟨_, rfl⟩
     obtain ⟨hrel, g4⟩ := hrel
     clear BK
     clear OS
     replace G := G.abv g4
     replace hAl := hAl0.grow G
     replace hBl := hBl0.grow G
     replace B1 := B1.md g4
     have zg4 := g4.size
     obtain ⟨k, m1, cS, AS, rfl, hk, ht1, BK, OS⟩ := hrel
     have hrb := rootsL_bnd hl (pl := pl) (k := k)
     have hm1 := ht1.1
     have GL4 := g4
     refine wp_seq_k fun K10 hK10 => ?_
     refine Sb 65 rfl ?_  -- 5
     refine S_val (Y_lss rfl rfl) ?_
     refine S_nl rfl rfl ?_
     refine th_n (hK10 _ _ ?_)
     clear hK10 K10
     refine wp_seq_k fun K11 hK11 => ?_
     refine S_if rfl (fun hb4 => ?_) (fun hb4 => ?_)  -- c2
     · -- c2T
      replace hb4 := nb_tt hb4
      have hk1 : k < h.roots.length := by omega
      obtain ⟨g4, o4, rfl, hp4, hc4⟩ := hBl.int hk1
      have hrs := rootsL_succ (cs := h.cells) (pl := pl) hk1
      refine wp_skip ?_
      refine th_n (hK11 _ _ ?_)
      clear hK11 K11
      refine wp_seq_k fun K12 hK12 => ?_
      refine wp_block ?_
      refine wp_seq_k fun K13 hK13 => ?_
      refine Sb 65 rfl ?_  -- 6
      refine S_val (Y_index Try.underlying23 sz3 rfl rfl (by first | assumption | omega)) ?_
      refine S_val (Y_load Try.underlying3 rfl rfl (by first | assumption | exact B1.at (by rfl) | exact BK.at (by rfl))) ?_  -- l4
      refine S_val (Y_assign rfl) ?_
      refine S_nl rfl rfl ?_
      refine th_n (hK13 _ _ ?_)
      clear hK13 K13
      refine wp_seq_k fun K14 hK14 => ?_
      refine Sb 65 rfl ?_  -- 7
      refine S_val (Y_move rfl) ?_
      refine S_val (Y_geq rfl rfl) ?_
      refine S_val (Y_move rfl) ?_
      refine S_g 34 rfl (fun hb5 => ?_) (fun hb5 => ?_)  -- g3
      · -- g3T
       replace hb5 := nb_tt hb5
       obtain ⟨k2, hm, hmN⟩ := ref_at hl.1 hk1 hb5
       rw [hm] at hrs
       rw [hm]
       refine S_on rfl rfl ?_
       refine S_val (Y_move rfl) ?_
       refine S_on rfl rfl ?_
       refine S_val (Y_nil rfl) ?_
       refine S_on rfl rfl ?_
       refine S_val (Y_field Try.underlying80 rfl fz80_1 (by decide) rfl) ?_
       refine S_on rfl rfl ?_
       refine S_val (Y_load Try.underlying78 rfl rfl (BK.at (by rfl))) ?_  -- l5
       refine S_on rfl rfl ?_
       refine S_val (Y_move rfl) ?_
       refine S_on rfl rfl ?_
       refine S_call rfl en58 (impl_cellSet_has_c _ _ _ (by assumption)) ?_  -- k2 (impl.cellSet).has
       rintro v w' ⟨rfl, hww⟩
       rw [hww]
       clear hww w'
       refine S_on rfl rfl ?_
       refine S_val (Y_not rfl) ?_
       refine S_val (Y_pickT rfl rfl) ?_
       refine S_nl rfl rfl ?_
       refine th_n (hK14 _ _ ?_)
       clear hK14 K14
       refine S_if rfl (fun hb6 => ?_) (fun hb6 => ?_)  -- c3
       · -- c3T
        first | with_reducible (replace hb6 := nb_nt hb6) | with_reducible (replace hb6 := nb_tt hb6) | with_reducible (replace hb6 := nb_bt hb6) | skip
        rw [hasB_nat, ht1.2] at hb6
        have hnin := of_decide_eq_false hb6
        rw [root1_new hnin] at hrs
        have hb2 := hrb.snoc hmN hnin
        refine wp_seq_k fun K15 hK15 => ?_
        refine Sb 65 rfl ?_  -- 8
        refine S_val (Y_move rfl) ?_
        refine S_val (Y_nil rfl) ?_
        refine S_val (Y_field Try.underlying80 rfl fz80_1 (by decide) rfl) ?_
        refine S_val (Y_move rfl) ?_
        refine S_call rfl en59 (impl_cellSet_add2_c _ _ _ _ m1 k2 bk _ BK hm1 (by omega)) ?_  -- k3 (*impl.cellSet).add
        rintro v5 w5 ⟨X5, m5⟩
        replace BK := X5
        clear X5
        replace G := G.abv m5
        replace GL4 := GL4.trn m5
        replace hAl := hAl0.grow G
        replace hBl := hBl0.grow G
        replace OS := OS.md m5
        replace B1 := B1.md m5
        have zm5 := m5.size
        have ht2 := ht1.add (n := k2) (by omega)
        refine S_nl rfl rfl ?_
        refine th_n (hK15 _ _ ?_)
        clear hK15 K15
        refine Sb 65 rfl ?_  -- 9
        refine S_val (Y_move rfl) ?_
        refine S_val (Y_move rfl) ?_
        refine S_call rfl en60 (impl_marker_work_c _ _ AS h _ _ k2 pl bk w.heap.size _ cS (rootsL h.cells pl (h.roots.take k) ++ [(k2 : Int)]) _ hAl (by omega) hl (by omega) BK OS ht2 hb2 (by simp) (by omega) (by omega)) ?_  -- k4 (*impl.marker).work
        rintro v6 w6 ⟨m3, cap3, A3, ht3, X6, Y6, m6⟩
        obtain ⟨mK, rfl⟩ : ∃ x, x = m3 := ⟨_, rfl⟩
        replace BK := X6
        replace OS := Y6
        clear X6 Y6
        replace G := G.abv m6
        replace GL4 := GL4.trn m6
        replace hAl := hAl0.grow G
        replace hBl := hBl0.grow G
        replace B1 := B1.md m6
        have zm6 := m6.size
        refine S_nl rfl rfl ?_
        refine ib_n ?_
        refine th_n (hK12 _ _ ?_)
        clear hK12 K12
        refine Sb 65 rfl ?_  -- 10
        refine S_val (Y_inc rfl rfl (by omega)) ?_
        refine S_val (Y_move rfl) ?_
        refine S_nl rfl rfl ?_
        refine th_n ?_
        go_roundw  -- e1 of L1
        case rel =>
         refine ⟨?_, GL4⟩
         first | exact ⟨k + 1, _, _, _, rfl, by omega, by rw [hrs]; exact ht3, BK, OS⟩ | exact ⟨k + 1, _, _, _, rfl, by omega, by rw [hrs]; exact ht1, BK, OS⟩
        case measure =>
         exact dec_nat (by omega)
       · -- c3F
        first | with_reducible (replace hb6 := nb_nf hb6) | with_reducible (replace hb6 := nb_tf hb6) | with_reducible (replace hb6 := nb_bf hb6) | skip
        first | (rw [hasB_nat, ht1.2] at hb6; rw [root1_old (fun h9 => h9.2 (of_decide_eq_true hb6))] at hrs) | skip
        refine wp_skip ?_
        refine ib_n ?_
        refine th_n (hK12 _ _ ?_)
        clear hK12 K12
        refine Sb 65 rfl ?_  -- 10
        refine S_val (Y_inc rfl rfl (by omega)) ?_
        refine S_val (Y_move rfl) ?_
        refine S_nl rfl rfl ?_
        refine th_n ?_
        go_roundw  -- e2 of L1
        case rel =>
         refine ⟨?_, GL4⟩
         first | exact ⟨k + 1, _, _, _, rfl, by omega, by rw [hrs]; exact ht3, BK, OS⟩ | exact ⟨k + 1, _, _, _, rfl, by omega, by rw [hrs]; exact ht1, BK, OS⟩
        case measure =>
         exact dec_nat (by omega)
      · -- g3F
       replace hb5 := nb_tf hb5
       rw [root1_old (fun h9 => by omega)] at hrs
       refine S_off rfl rfl ?_
       refine S_off rfl rfl ?_
       refine S_off rfl rfl ?_
       refine S_off rfl rfl ?_
       refine S_off rfl rfl ?_
       refine S_off rfl rfl ?_
       refine S_off rfl rfl ?_
       refine S_val (Y_pickF rfl rfl) ?_
       refine S_nl rfl rfl ?_
       refine th_n (hK14 _ _ ?_)
       clear hK14 K14
       refine S_ifF rfl ?_
       refine wp_skip ?_
       refine ib_n ?_
       refine th_n (hK12 _ _ ?_)
       clear hK12 K12
       refine Sb 65 rfl ?_  -- 10
       refine S_val (Y_inc rfl rfl (by omega)) ?_
       refine S_val (Y_move rfl) ?_
       refine S_nl rfl rfl ?_
       refine th_n ?_
       go_roundw  -- e3 of L1
       case rel =>
        refine ⟨?_, GL4⟩
        first | exact ⟨k + 1, _, _, _, rfl, by omega, by rw [hrs]; exact ht3, BK, OS⟩ | exact ⟨k + 1, _, _, _, rfl, by omega, by rw [hrs]; exact ht1, BK, OS⟩
       case measure =>
        exact dec_nat (by omega)
     · -- c2F
      replace hb4 := nb_tf hb4
      rw [List.take_of_length_le (by omega)] at ht1 hrb
      refine wp_exit ?_
      refine th_x ?_
      try clear GL4
      refine th_x ?_
      refine ib_e ?_
      refine th_n (hK8 _ _ ?_)
      clear hK11 K11 hK8 K8
      refine wp_seq_k fun K16 hK16 => ?_
      refine Sb 65 rfl ?_  -- 11
      refine S_val (Y_assign rfl) ?_
      refine S_nl rfl rfl ?_
      refine th_n (hK16 _ _ ?_)
      clear hK16 K16
      refine wp_seq_k fun K17 hK17 => ?_
      refine wp_block ?_
      go_loopw [9] (fun u9 wr => (∃ (f p m cS : Nat) (AS : Option Addr) (s : List Int), u9 = .int .i64 p ∧ Bnd h.cells.length s ∧ p ≤ 1 + s.length ∧ h.cells.length ≤ f + s.length ∧ bndF h.cells pl f s p = boundL h pl ∧ BitsOf m s ∧ Blk wr bk 80 [.slice A h.cells.length c, .slice B h.roots.length d, .int .u64 (m : Int), .slice AS 0 cS, .int .i64 (pl : Int)].toArray ∧ OW (fun i => bk < i) wr 3 1 AS 0 cS (ints [])) ∧ Mod (fun i => bk ≤ i) w4 wr) (fun u9 wr => h.cells.length - popc h.cells.length (natI wr bk 2))  -- L2
      case atStart =>
       refine ⟨?_, Mod.refl _ _⟩
       exact ⟨h.cells.length, 1, m1, cS, AS, _, rfl, hrb, by omega, by omega, rfl, ht1, BK, OS⟩
      case round =>
       obtain ⟨w7, rfl⟩ : ∃ x : World, x = wr := ⟨_, rfl⟩
       obtain ⟨hrel, g7⟩ := hrel
       clear BK
       clear OS
       replace G := G.abv g7
       replace hAl := hAl0.grow G
       replace hBl := hBl0.grow G
       replace B1 := B1.md g7
       have zg7 := g7.size
       obtain ⟨f, p, m2, cS, AS, s, rfl, hbd, hp, hf, hD, hts, BK, OS⟩ := hrel
       have hM := natI_int (i := 2) BK rfl
       have hP := popc_eq hts.2 hbd
       have hsl := hbd.len
       have GL7 := g7
       refine wp_seq_k fun K18 hK18 => ?_
       refine wp_seq_k fun K19 hK19 => ?_
       refine Sb 65 rfl ?_  -- 12
       refine S_val (Y_move rfl) ?_
       refine S_call rfl en61 (impl_marker_again_c _ _ AS h _ _ 0 pl bk w.heap.size m2 cS s _ hAl (by omega) hl (by omega) BK OS hts hbd (by omega) (by omega)) ?_  -- k5 (*impl.marker).again
       rintro v8 w8 ⟨m3, cap3, A3, rfl, ht3, X8, Y8, m8⟩
       replace BK := X8
       replace OS := Y8
       clear X8 Y8
       replace G := G.abv m8
       replace GL7 := GL7.trn m8
       replace hAl := hAl0.grow G
       replace hBl := hBl0.grow G
       replace B1 := B1.md m8
       have zm8 := m8.size
       have hpb := passL_bnd hl (pl := pl) (k := h.cells.length) hbd
       refine S_nl rfl rfl ?_
       refine th_n (hK19 _ _ ?_)
       clear hK19 K19
       refine S_if rfl (fun hb5 => ?_) (fun hb5 => ?_)  -- c4
       · -- c4T
        first | with_reducible (replace hb5 := nb_nt hb5) | with_reducible (replace hb5 := nb_tt hb5) | with_reducible (replace hb5 := nb_bt hb5) | skip
        obtain ⟨f1, hf1, hf2⟩ := bndF_step hl (pl := pl) (p := p) hbd hf hb5
        have hpa := pass_any (pl := pl) hb5
        have hroom := any_room hl hbd hb5
        refine wp_skip ?_
        refine th_n (hK18 _ _ ?_)
        clear hK18 K18
        refine wp_block ?_
        refine Sb 65 rfl ?_  -- 13
        refine S_val (Y_move rfl) ?_
        refine S_val (Y_inc rfl rfl (by omega)) ?_
        refine S_val (Y_assign rfl) ?_
        refine S_nl rfl rfl ?_
        refine ib_n ?_
        refine th_n ?_
        go_roundw  -- e4 of L2
        case rel =>
         refine ⟨?_, GL7⟩
         exact ⟨f1, p + 1, _, _, _, _, rfl, hpb, by omega, hf2, by rw [← hf1]; exact hD, ht3, BK, OS⟩
        case measure =>
         rw [hM, natI_int (i := 2) BK rfl, hP, popc_eq ht3.2 hpb]
         omega
       · -- c4F
        first | with_reducible (replace hb5 := nb_nf hb5) | with_reducible (replace hb5 := nb_tf hb5) | with_reducible (replace hb5 := nb_bf hb5) | skip
        rw [bndF_stop hb5] at hD
        have hd1 : s = (boundL h pl).1 := by rw [← hD]
        have hd2 : p = (boundL h pl).2 := by rw [← hD]
        have hpn := pass_none (pl := pl) hb5
        rw [hpn] at ht3
        have hm3 := ht3.1
        have hbl := bits_list (N := h.cells.length) ht3.2
        refine wp_exit ?_
        refine th_x ?_
        try clear GL7
        refine th_x ?_
        refine ib_e ?_
        refine th_n (hK17 _ _ ?_)
        clear hK18 K18 hK17 K17
        refine wp_seq_k fun K20 hK20 => ?_
        refine D_start 11 65 (fun w => Mod (No) w) follows rfl rfl ?_  -- d1 r14
        intro w9 g9
        replace hAl := hAl.grow g9
        replace hBl := hBl.grow g9
        replace OS := OS.grow g9
        replace G := G.grow g9
        replace B1 := B1.grow g9
        replace BK := BK.grow g9
        have zg9 := g9.size
        have GS9 := Mod.refl (No) w9
        have B1d9 := B1
        have BKd9 := BK
        refine Dq (i := 0) rfl GS9 (fun _ _ => Y_move rfl) ?_
        refine Dq (i := 1) rfl GS9 (fun _ _ => Y_nil rfl) ?_
        refine Dq (i := 2) rfl GS9 (fun _ _ => Y_field Try.underlying80 rfl fz80_1 (by decide) rfl) ?_
        refine Dq (i := 3) rfl GS9 (fun _ hs => Y_load Try.underlying78 rfl rfl (hs.cell0 (BK.at (by rfl)))) ?_
        refine Dq (i := 4) rfl GS9 (fun _ _ => Y_field Try.underlying32 rfl fz32_0 (by decide) rfl) ?_
        refine Dq (i := 5) rfl GS9 (fun _ hs => Y_load Try.underlying30 rfl rfl (hs.cell0 (B1.at (by rfl)))) ?_
        refine Dq (i := 6) rfl GS9 (fun _ _ => Y_len Try.underlying30 rfl) ?_
        refine Dq (i := 8) rfl GS9 (fun _ _ => Y_move rfl) ?_
        refine D_1 (i := 7) (by kernel_rfl) ?_
        refine E_call rfl rfl en62 (impl_cellSet_list_c _ _ _ (by first | assumption | exact SetOf.wlt (by assumption)) (by omega)) ?_  -- k6 (impl.cellSet).list
        rintro v10 w10 ⟨b10, rfl, fb10, B10, g10⟩
        replace hAl := hAl.grow g10
        replace hBl := hBl.grow g10
        replace OS := OS.grow g10
        replace G := G.grow g10
        replace GS9 := GS9.grow g10
        replace B1 := B1.grow g10
        replace BK := BK.grow g10
        have zg10 := g10.size
        have lb10 := B10.lt
        rw [hbl, hd1] at B10
        have hfB := fb10
        refine ⟨GS9, ?_⟩
        refine Dq (i := 9) rfl GS9 (fun _ _ => Y_assign rfl) ?_
        refine Dq (i := 10) rfl GS9 (fun _ _ => Y_assign rfl) ?_
        refine D_en (by kernel_rfl) rfl rfl ?_
        refine th_n (hK20 _ _ ?_)
        clear hK20 K20
        refine wp_ret ?_
        refine ret_r2 rfl rfl rfl ?_  -- r4
        first | exact ⟨_, _, _, by rw [hsv], by rw [hsv]; rfl, by rw [hsv]; exact OI.nil _ _ _ _, G⟩ | exact ⟨_, _, _, by rw [hsv, ← hd2], by rw [hsv]; exact (mB_len _ _).symm, by rw [hsv]; exact OI.of_blk' (by assumption) (by omega), G⟩
end
/-! Open -/
section
open Go Go.ChangeShapes Go.WideShapes Go.ChangeAt Go.RowKit Go.Deep Go.Joins
section
variable {H : Type} {enc : TypeId × Value → H} {P : Program} {w : World} {base : Nat} {spare : Nat → Bool} {held : Bool}
theorem plain_of_cell {w : World} {a : Addr} {v : Value} (h : w.cell? a = some v) : ∃ g o, a = ⟨g, o, none⟩ := by
  obtain ⟨g, o, s⟩ := a
  have hs := World.cell?_spot h
  simp only at hs
  subst hs
  exact ⟨g, o, rfl⟩
theorem open_r1 {t e : TypeId} {fuel : Nat} {v : Value} {x : DataW H × List MemPlace} (ht : P.underlying t = some (.slice e)) (he : P.underlying e = some (.int .i64)) (hc : P.cellsOf e = 1)
    (h : DataW.trod enc P w base spare held fuel t [v] = some x) : ∃ (A : Option Addr) (xs : List Int) (c : Nat), v = .slice A xs.length c ∧ R1 (fun _ => True) w A (ints xs) ∧ xs.length ≤ 9223372036854775807 ∧ xs.length ≤ c := by
  rcases open_ints ht he hc h with ⟨hcs, _⟩ | ⟨a, len, cap, zs, hcs, _, hl, hm, hz, _, hcell, _⟩
  · simp only [List.cons.injEq, and_true] at hcs
    subst hcs
    exact ⟨none, [], 0, rfl, R1.nil _ _ _, by simp, by simp⟩
  · simp only [List.cons.injEq, and_true] at hcs
    subst hcs
    have hlz : len ≤ zs.length := by
      rw [hz]
      split
      · exact hl
      · exact Nat.le_refl _
    have hlen : (zs.take len).length = len := by rw [List.length_take]; omega
    refine ⟨some a, zs.take len, cap, by rw [hlen], fun k u hu => ?_, by rw [hlen]; unfold maxLen at hm; omega, by rw [hlen]; exact hl⟩
    have hk : k < len := by
      have := (List.getElem?_eq_some_iff.1 hu).1
      rw [ints_len, hlen] at this
      exact this
    obtain ⟨g, o, rfl⟩ : ∃ g o, a = ⟨g, o, none⟩ := by
      have h0 := hcell 0 (by omega)
      rw [show a.add 0 = a by simp [Addr.add]] at h0
      exact plain_of_cell h0
    refine ⟨g, o, rfl, trivial, ?_⟩
    have hck := hcell k (by omega)
    rw [Addr.add_lit] at hck
    rw [Nat.mul_one, hck]
    have hu' : (ints (zs.take len))[k]? = some (.int .i64 (zs.getD k 0)) := by
      unfold ints
      rw [List.getElem?_map, List.getElem?_take, if_pos hk, List.getElem?_eq_getElem (show k < zs.length by omega)]
      simp [List.getD, List.getElem?_eq_getElem (show k < zs.length by omega)]
    rw [hu'] at hu
    exact hu
theorem list_of {α : Type} {n : Nat} {p : Nat → α → Prop} (h : ∀ i, i < n → ∃ x, p i x) : ∃ l : List α, l.length = n ∧ ∀ i x, l[i]? = some x → p i x := by
  induction n with
  | zero => exact ⟨[], rfl, fun i x hx => by simp at hx⟩
  | succ n ih =>
    obtain ⟨l, hl, hp⟩ := ih (fun i hi => h i (by omega))
    obtain ⟨x, hx⟩ := h n (by omega)
    refine ⟨l ++ [x], by simp [hl], fun i y hy => ?_⟩
    by_cases hi : i < l.length
    · rw [List.getElem?_append_left hi] at hy
      exact hp i y hy
    · have hlt := (List.getElem?_eq_some_iff.1 hy).1
      simp only [List.length_append, List.length_cons, List.length_nil] at hlt
      have e : i = n := by omega
      subst e
      rw [List.getElem?_append_right (by omega)] at hy
      simp [hl] at hy
      rw [← hy]
      exact hx
theorem open_rc {t e tb ti ts : TypeId} {fuel : Nat} {v : Value} {x : DataW H × List MemPlace} {f0 f1 f2 : Field} (ht : P.underlying t = some (.slice e)) (he : P.underlying e = some (.struct #[f0, f1, f2])) (hone : oneCellFields P #[f0, f1, f2] = true) (hC : P.cellsOf e = 3)
    (e0 : f0.type = tb) (e1 : f1.type = ti) (e2 : f2.type = ts) (h0 : P.underlying tb = some .bool) (h1 : P.underlying ti = some (.int .i64)) (h2 : P.underlying ts = some (.slice ti)) (h3 : P.cellsOf ti = 1)
    (h : DataW.trod enc P w base spare held fuel t [v] = some x) : ∃ (A : Option Addr) (cs : List LC) (c : Nat), v = .slice A cs.length c ∧ RC (fun _ => True) w A cs ∧ cs.length ≤ 9223372036854775807 ∧ ∀ y ∈ cs, y.refs.length ≤ 9223372036854775807 := by
  subst e0 e1 e2
  rcases open_slice ht h with ⟨hcs, _⟩ | ⟨a, len, cap, m, n, D, Pl, hcs, _, hl, hm, hmm, _, hi⟩
  · simp only [List.cons.injEq, and_true] at hcs
    subst hcs
    exact ⟨none, [], 0, rfl, fun k c hc => by simp at hc, by simp, fun y hy => by simp at hy⟩
  · simp only [List.cons.injEq, and_true] at hcs
    subst hcs
    have hlm : len ≤ m := by
      rw [hmm]
      split
      · exact hl
      · exact Nat.le_refl _
    by_cases hl0 : len = 0
    · subst hl0
      exact ⟨some a, [], cap, rfl, fun k c hc => by simp at hc, by simp, fun y hy => by simp at hy⟩
    obtain ⟨ag, ao, rfl⟩ : ∃ g o, a = ⟨g, o, none⟩ := by
      obtain ⟨cs', hc, _⟩ := hi 0 (by omega)
      rw [hC] at hc
      obtain ⟨_, hcl, hat⟩ := World.cells?_some hc
      have g0 := hat 0 (by omega)
      rw [Nat.zero_mul, show (a.add 0).add 0 = a by simp [Addr.add], List.getElem?_eq_getElem (show 0 < cs'.length by omega)] at g0
      exact plain_of_cell g0
    have each : ∀ i, i < len → ∃ y : LC, y.refs.length ≤ 9223372036854775807 ∧ ∃ B d, CellsAt w ag (ao + i * 3) [.bool y.used, .int .i64 y.data, .slice B y.refs.length d] ∧ R1 (fun _ => True) w B (ints y.refs) := by
      intro i hil
      obtain ⟨cs', hc, ht'⟩ := hi i (by omega)
      rw [hC] at hc
      obtain ⟨ys, n', _, _, hlen, hyl, hf⟩ := DataW.trod_struct he ht'
      obtain ⟨_, hcl, hat⟩ := World.cells?_some hc
      have fld : ∀ (j : Nat) (f : Field), (#[f0, f1, f2] : Array Field)[j]? = some f → ∃ (u : Value) (y : DataW H × List MemPlace), cs'[j]? = some u ∧ DataW.trod enc P w base spare held n' f.type [u] = some y := by
        intro j f hj
        obtain ⟨ho, hk⟩ := hone_of hone j f hj
        have hjl : j < 3 := (Array.getElem?_eq_some_iff.1 hj).1
        have hv : cs'[j]? = some (cs'[j]'(by omega)) := List.getElem?_eq_getElem (by omega)
        have g1 := hf j f hj
        rw [ho, hk] at g1
        have hone' : (cs'.drop j).take 1 = [cs'[j]'(by omega)] := by
          rw [List.drop_eq_getElem_cons (by omega)]
          rfl
        rw [hone'] at g1
        have hyl3 : ys.length = 3 := hyl
        have hys : ys[j]? = some (ys[j]'(by omega)) := List.getElem?_eq_getElem (by omega)
        exact ⟨_, _, hv, g1.trans hys⟩
      obtain ⟨u0, y0, hv0, t0⟩ := fld 0 f0 rfl
      obtain ⟨u1, y1, hv1, t1⟩ := fld 1 f1 rfl
      obtain ⟨u2, y2, hv2, t2⟩ := fld 2 f2 rfl
      obtain ⟨b, eb, _⟩ := DataW.trod_bool h0 t0
      obtain ⟨z, ez, _, _⟩ := DataW.trod_int h1 t1
      obtain ⟨B, xs, d, e2', hR, hxl, _⟩ := open_r1 h2 h1 h3 t2
      simp only [List.cons.injEq, and_true] at eb ez
      subst eb ez e2'
      have hcs3 : cs' = [.bool b, .int .i64 z, .slice B xs.length d] := by
        apply List.ext_getElem?
        intro j
        match j with
        | 0 => simpa using hv0
        | 1 => simpa using hv1
        | 2 => simpa using hv2
        | j + 3 => rw [List.getElem?_eq_none (by omega)]; simp
      refine ⟨⟨b, z, xs⟩, hxl, B, d, fun j u hu => ?_, hR⟩
      have hj : j < 3 := by
        have := (List.getElem?_eq_some_iff.1 hu).1
        simpa using this
      have g1 := hat j hj
      rw [Addr.add_lit, Addr.add_lit, hcs3, hu] at g1
      exact g1
    obtain ⟨cs, hcl, hcs⟩ := list_of each
    refine ⟨some ⟨ag, ao, none⟩, cs, cap, by rw [hcl], fun k c hk => ?_, by rw [hcl]; unfold maxLen at hm; omega, fun y hy => ?_⟩
    · obtain ⟨_, B, d, h1, h2⟩ := hcs k c hk
      exact ⟨ag, ao, B, d, rfl, trivial, h1, h2⟩
    · obtain ⟨k, hk⟩ := List.getElem?_of_mem hy
      exact (hcs k y hk).1
theorem trod_top {t e : TypeId} {r : Reach} {b0 : Nat} {v : Value} {d : DataW H} {p : List MemPlace} (hu : P.underlying t = some (.slice e)) (hval : Value.okWide P w r b0 t v) (h : DataW.Trod enc P w base spare held t v d p) :
    ∃ fuel, DataW.trod enc P w base spare held fuel t [v] = some (d, p) := by
  obtain ⟨a, len, cap, rfl⟩ := okWide_slice hu hval
  obtain ⟨fuel, hf⟩ := h
  exact ⟨fuel, hf⟩
theorem open_ru {t e : TypeId} {fuel : Nat} {v : Value} {x : DataW H × List MemPlace} (ht : P.underlying t = some (.slice e)) (he : P.underlying e = some (.int .u8)) (hc : P.cellsOf e = 1)
    (h : DataW.trod enc P w base spare held fuel t [v] = some x) : ∃ (A : Option Addr) (xs : List Int) (c : Nat), v = .slice A xs.length c ∧ R1 (fun _ => True) w A (u8s xs) ∧ xs.length ≤ 9223372036854775807 ∧ xs.length ≤ c ∧ ∀ y ∈ xs, 0 ≤ y ∧ y ≤ 255 := by
  rcases open_ints ht he hc h with ⟨hcs, _⟩ | ⟨a, len, cap, zs, hcs, _, hl, hm, hz, _, hcell, hwz⟩
  · simp only [List.cons.injEq, and_true] at hcs
    subst hcs
    exact ⟨none, [], 0, rfl, R1.nil _ _ _, by simp, by simp, by simp⟩
  · simp only [List.cons.injEq, and_true] at hcs
    subst hcs
    have hlz : len ≤ zs.length := by
      rw [hz]
      split
      · exact hl
      · exact Nat.le_refl _
    have hlen : (zs.take len).length = len := by rw [List.length_take]; omega
    refine ⟨some a, zs.take len, cap, by rw [hlen], fun k u hu => ?_, by rw [hlen]; unfold maxLen at hm; omega, by rw [hlen]; exact hl, fun y hy => ?_⟩
    · have hk : k < len := by
        have := (List.getElem?_eq_some_iff.1 hu).1
        rw [u8s, List.length_map, hlen] at this
        exact this
      obtain ⟨g, o, rfl⟩ : ∃ g o, a = ⟨g, o, none⟩ := by
        have h0 := hcell 0 (by omega)
        rw [show a.add 0 = a by simp [Addr.add]] at h0
        exact plain_of_cell h0
      refine ⟨g, o, rfl, trivial, ?_⟩
      have hck := hcell k (by omega)
      rw [Addr.add_lit] at hck
      rw [Nat.mul_one, hck]
      have hu' : (u8s (zs.take len))[k]? = some (.int .u8 (zs.getD k 0)) := by
        unfold u8s
        rw [List.getElem?_map, List.getElem?_take, if_pos hk, List.getElem?_eq_getElem (show k < zs.length by omega)]
        simp [List.getD, List.getElem?_eq_getElem (show k < zs.length by omega)]
      rw [hu'] at hu
      exact hu
    · have hy' := List.mem_of_mem_take hy
      have := hwz y hy'
      simp [Lit.wf, IntKind.min, IntKind.max, IntKind.bits, IntKind.signed] at this
      omega
end
end
end Go.Proofs.Ytikgflhepclfgac
