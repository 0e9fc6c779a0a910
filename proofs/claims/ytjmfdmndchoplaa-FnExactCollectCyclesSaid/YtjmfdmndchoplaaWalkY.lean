/-
  Walks: heaps that are built anew.
  Conditions: those that each theorem states.
-/
import Derived.Test.YtjmfdmndchoplaaTy
import Derived.Test.YtjmfdmndchoplaaWalkV
import Derived.Test.YtjmfdmndchoplaaGrow
import Derived.Test.YtjmfdmndchoplaaWalkM
namespace Go.Proofs.Ytjmfdmndchoplaa
open Go Go.RowKit
attribute [local irreducible] wpList wpAnyH Code.wp dOp

set_option maxHeartbeats 400000 in
set_option maxRecDepth 20000 in
theorem impl_clone_int__c (Pr : Nat → Prop) (A : Option Addr) (xs : List Int) (c : Nat) (w : World) (hA : R1 Pr w A (ints xs)) (hx : xs.length ≤ 1048576) :
    Calls Try.prog 46 #[.slice A xs.length c] w (Ret fun v w' => ∃ A q cap, v = .slice A q cap ∧ q = xs.length ∧ OW (fun i => w.heap.size ≤ i) w' 3 1 A q cap (ints xs) ∧ Grow w w') := by
 refine enter Try.func46 rfl Try.ntmps46 (L := [_,_,_,_,_,_,_,_]) rfl ?_
 have G := Mod.refl No w
 have hA0 := hA
 refine wp_seq_k fun K1 hK1 => ?_
 refine Sb 8 rfl ?_  -- 0
 refine S_val (Y_assign rfl) ?_
 refine S_nl rfl rfl ?_
 refine th_n (hK1 _ _ ?_)
 clear hK1 K1
 refine wp_seq_k fun K2 hK2 => ?_
 refine Sb 8 rfl ?_  -- 1
 refine S_val (Y_move rfl) ?_
 refine S_val (Y_len Try.underlying22 rfl) ?_
 refine S_make (n := xs.length) (l := 0) (z := [.int .i64 0]) Try.underlying22 zr3 sz3 by3 rfl rfl (by omega) (by omega) (by omega) ?_
 intro b1 w1 fb1 g1 B1
 have lb1 := B1.lt
 replace hA := hA.grow g1
 replace G := G.grow g1
 have zg1 := g1.size
 have O1 := OW.room (Pr := fun i => w.heap.size ≤ i) (s := 1) B1 rfl (by unfold maxLen; omega) (by omega)
 refine S_val (Y_move rfl) ?_
 refine S_app (news := ints xs) Try.underlying22 zr3 sz3 by3 rfl rfl O1 (by rw [ints_len]; omega) (by have hsr := Src.r1 hA; rw [ints_len] at hsr; exact hsr) ints_one (by omega) (Pr' := fun i => w.heap.size ≤ i) (fun i hi => hi) (by omega) ?_
 intro A2 cap2 w2 X2 m2
 replace O1 := X2
 rw [List.nil_append] at O1
 clear X2
 replace G := G.abv m2
 replace hA := hA0.grow G
 have zm2 := m2.size
 refine S_val (Y_assign rfl) ?_
 refine S_nl rfl rfl ?_
 refine th_n (hK2 _ _ ?_)
 clear hK2 K2
 refine wp_ret ?_
 refine ret_r1 rfl rfl ?_  -- r1
 exact ⟨_, _, _, rfl, by omega, O1, G⟩

end Go.Proofs.Ytjmfdmndchoplaa
