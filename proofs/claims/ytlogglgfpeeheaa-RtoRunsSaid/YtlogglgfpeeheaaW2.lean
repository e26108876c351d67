import Derived.Test.YtlogglgfpeeheaaW1
namespace Go.Proofs.Ytlogglgfpeeheaa
open Go.RowKit

theorem ret_bool {a b : Bool} (h : a = b) : Ending.returned (.bool a) = .returned (.bool b) := by rw [h]
theorem below1 (w : World) (o1 : Obj) : Below w.heap.size w (w.alloc o1) := (Below.refl _ _).alloc (Nat.le_refl _) _

def rightB (s p t : Int) : Bool := decide (4 ≤ t ∧ t ≤ 240 ∧ ((s = -1 ∧ p = -1) ∨ (0 ≤ s ∧ s ≤ 1927 ∧ 0 ≤ p ∧ p ≤ 963)))

set_option maxHeartbeats 1000000 in
theorem right_any (s p t : Int) (w : World) :
    Calls Try.prog 10 #[.agg #[.int .i64 s, .int .i64 p, .int .i64 t]] w fun e w' => e = .returned (.bool (rightB s p t)) ∧ Below w.heap.size w w' := by
  go_enter Try.func10, Try.ntmps10
  go_wp2
  all_goals
    go_ret
    refine ⟨ret_bool ?_, below1 _ _⟩
    unfold rightB
    rw [Bool.eq_iff_iff]
    simp
    omega

set_option maxHeartbeats 1000000 in
theorem rright_any (s p t : Int) (w : World) :
    Calls Try.prog 11 #[.agg #[.int .i64 s, .int .i64 p, .int .i64 t]] w fun e w' => e = .returned (.bool (rightB s p t)) ∧ Below w.heap.size w w' := by
  go_enter Try.func11, Try.ntmps11
  go_wp2
  all_goals
    go_ret
    refine ⟨ret_bool ?_, below1 _ _⟩
    unfold rightB
    rw [Bool.eq_iff_iff]
    simp
    omega

end Go.Proofs.Ytlogglgfpeeheaa
