import Derived.Test.YtlogglgfpeeheaaRows
import Derived.WalkKit
import Derived.WalkSpells
import Derived.WalkLawsBesides
namespace Go.Proofs.Ytlogglgfpeeheaa
open Go.RowKit

theorem ret_int {k : IntKind} {a b : Int} (h : a = b) : Ending.returned (.int k a) = .returned (.int k b) := by rw [h]

def bnd (n : Int) : Int := max 4 (min n 240)
theorem bnd_lo (n : Int) : 4 ≤ bnd n := by unfold bnd; omega
theorem bnd_hi (n : Int) : bnd n ≤ 240 := by unfold bnd; omega

set_option maxHeartbeats 400000 in
theorem bound_any (n : Int) (w : World) :
    Calls Try.prog 15 #[.int .i64 n] w fun e w' => e = .returned (.int .i64 (bnd n)) ∧ w = w' := by
  go_enter Try.func15, Try.ntmps15
  go_wp2
  all_goals
    go_ret
    refine ⟨ret_int ?_, rfl⟩
    unfold bnd
    omega

set_option maxHeartbeats 400000 in
theorem rbound_any (n : Int) (w : World) :
    Calls Try.prog 16 #[.int .i64 n] w fun e w' => e = .returned (.int .i64 (bnd n)) ∧ w = w' := by
  go_enter Try.func16, Try.ntmps16
  go_wp2
  all_goals
    go_ret
    refine ⟨ret_int ?_, rfl⟩
    unfold bnd
    omega

theorem below2 (w : World) (o1 o2 : Obj) : Below w.heap.size w ((w.alloc o1).alloc o2) :=
  ((Below.refl _ _).alloc (Nat.le_refl _) _).alloc (by simp) _

set_option maxHeartbeats 400000 in
theorem new_any (w : World) :
    Calls Try.prog 8 #[] w fun e w' => e = .returned (.agg #[.int .i64 (-1), .int .i64 (-1), .int .i64 10]) ∧ Below w.heap.size w w' := by
  go_enter Try.func8, Try.ntmps8
  go_wp2
  exact bodyPost_ret (v := .agg #[.int .i64 (-1), .int .i64 (-1), .int .i64 10]) (by simp [results, Try.results8, go_sem]) rfl ⟨rfl, (Below.refl _ _).alloc (Nat.le_refl _) _⟩

set_option maxHeartbeats 400000 in
theorem double_any (s p t : Int) (w : World) :
    Calls Try.prog 12 #[.agg #[.int .i64 s, .int .i64 p, .int .i64 t]] w fun e w' => e = .returned (.agg #[.int .i64 s, .int .i64 p, .int .i64 (bnd (2 * bnd t))]) ∧ Below w.heap.size w w' := by
  have b1 := bnd_lo t
  have b2 := bnd_hi t
  go_enter Try.func12, Try.ntmps12
  go_wp2_with (first | (go_at_call 15; refine (bound_any _ _).mono ?_; rintro e w' ⟨rfl, rfl⟩))
  exact bodyPost_ret (v := .agg #[.int .i64 s, .int .i64 p, .int .i64 (bnd (2 * bnd t))]) (by simp [results, Try.results12, go_sem]) rfl ⟨rfl, below2 _ _ _⟩

def nxS (s r : Int) : Int := s + (r - s / 8)
def nxP (s p r : Int) : Int := p + (max (s / 8 - r) (-(s / 8 - r)) - p / 4)
def wt (s p : Int) : Int := bnd (s / 8 + max 1 p)
theorem nxS_bd (s r : Int) (h0 : 0 ≤ s) (h1 : s ≤ 1927) (h2 : 0 ≤ r) (h3 : r ≤ 240) : 0 ≤ nxS s r ∧ nxS s r ≤ 1927 := by unfold nxS; omega
theorem nxP_bd (s p r : Int) (h0 : 0 ≤ s) (h1 : s ≤ 1927) (h2 : 0 ≤ r) (h3 : r ≤ 240) (h4 : 0 ≤ p) (h5 : p ≤ 963) : 0 ≤ nxP s p r ∧ nxP s p r ≤ 963 := by unfold nxP; omega

set_option maxHeartbeats 800000 in
theorem measure_neg (t : Int) (w : World) (n : Int) (hn : 0 ≤ n) :
    Calls Try.prog 9 #[.agg #[.int .i64 (-1), .int .i64 (-1), .int .i64 t], .int .u64 n] w fun e w' => e = .returned (.agg #[.int .i64 (8 * min n 240), .int .i64 (2 * min n 240), .int .i64 (wt (8 * min n 240) (2 * min n 240))]) ∧ Below w.heap.size w w' := by
  by_cases h : n ≤ 240
  all_goals
    go_enter Try.func9, Try.ntmps9
    go_wp2_with (first | (go_at_call 15; refine (bound_any _ _).mono ?_; rintro e w' ⟨rfl, rfl⟩))
    all_goals
      refine bodyPost_ret (v := .agg #[.int .i64 (8 * min n 240), .int .i64 (2 * min n 240), .int .i64 (wt (8 * min n 240) (2 * min n 240))]) ?_ rfl ⟨rfl, below2 _ _ _⟩
      simp [results, Try.results9, go_sem]
      unfold wt
      first | exact ⟨by omega, by omega, congrArg bnd (by omega)⟩ | exact ⟨by omega, congrArg bnd (by omega)⟩ | exact congrArg bnd (by omega)

set_option maxHeartbeats 800000 in
theorem measure_pos (s p t : Int) (w : World) (n : Int) (hn : 0 ≤ n) (h0 : 0 ≤ s) (h1 : s ≤ 1927) (h4 : 0 ≤ p) (h5 : p ≤ 963) :
    Calls Try.prog 9 #[.agg #[.int .i64 s, .int .i64 p, .int .i64 t], .int .u64 n] w fun e w' => e = .returned (.agg #[.int .i64 (nxS s (min n 240)), .int .i64 (nxP s p (min n 240)), .int .i64 (wt (nxS s (min n 240)) (nxP s p (min n 240)))]) ∧ Below w.heap.size w w' := by
  have hb : (decide (s < 0) || decide (p < 0)) = false := by simp; omega
  by_cases h : n ≤ 240
  all_goals
    go_enter Try.func9, Try.ntmps9
    go_wp2_with (first | (go_at_call 15; refine (bound_any _ _).mono ?_; rintro e w' ⟨rfl, rfl⟩))
    all_goals
      refine bodyPost_ret (v := .agg #[.int .i64 (nxS s (min n 240)), .int .i64 (nxP s p (min n 240)), .int .i64 (wt (nxS s (min n 240)) (nxP s p (min n 240)))]) ?_ rfl ⟨rfl, below2 _ _ _⟩
      simp [results, Try.results9, go_sem]
      unfold wt nxS nxP
      first | exact ⟨by omega, by omega, congrArg bnd (by omega)⟩

end Go.Proofs.Ytlogglgfpeeheaa
