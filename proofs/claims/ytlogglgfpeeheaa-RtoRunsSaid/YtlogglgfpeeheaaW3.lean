import Derived.Test.YtlogglgfpeeheaaW2
import Derived.Deep.QuietTactic
import Derived.BigQuiet
import Derived.RegionTactic
import Derived.StillTailTactics
import Derived.Deep.RegionWith
namespace Go.Proofs.Ytlogglgfpeeheaa
open Go.RowKit

theorem rbound_q (n : Int) (w : World) :
    Calls Try.prog 16 #[.int .i64 n] w fun e w' => e = .returned (.int .i64 (bnd n)) ∧ w' = w := (rbound_any n w).mono fun _ _ ⟨a, b⟩ => ⟨a, b.symm⟩

theorem still_tail_d {P : Program} {id : Nat} {Q : Exit → Act → World → Prop} {a : Act} {w : World} {l : List Oper} (n : Nat) (hm : P.follows .mixedOrders = true) (hB : Region.lexTailB .any l.toArray n = true)
    (h : wpStill P l.toArray w.drew (fun a' => wpList P l.toArray Q (l.drop n) a' w.drew) (l.take n) a) : (Code.region id l.toArray true).wp P Q a w :=
  wp_region_still_tail n hm hB h

set_option maxHeartbeats 1000000 in
theorem rdouble_any (s p t : Int) (w : World) (ht0 : 4 ≤ t) (ht1 : t ≤ 240) :
    Calls Try.prog 14 #[.agg #[.int .i64 s, .int .i64 p, .int .i64 t]] w fun e w' => e = .returned (.agg #[.int .i64 s, .int .i64 p, .int .i64 (bnd (t + t))]) ∧ Below w.heap.size w w' := by
  have hs : IntKind.i64.wrap (t + t) = t + t := IntWalk.i64_in _ (by omega)
  go_enter Try.func14, Try.ntmps14
  go_wp2
  refine still_tail_d 11 (by kernel_rfl) (by kernel_rfl) ?_
  simp only [List.take_succ_cons, List.take_zero, List.drop_succ_cons, List.drop_zero]
  repeat still_step
  still_call (rbound_q _ _)
  repeat still_step
  refine wpStill_nil ?_
  go_wp2
  exact bodyPost_ret (v := .agg #[.int .i64 s, .int .i64 p, .int .i64 (bnd (t + t))]) (by simp [results, Try.results14, go_sem]) rfl ⟨rfl, (below2 _ _ _).drew⟩

def rmres (s p n : Int) : Value := .agg #[.int .i64 (nxS s (min n 240)), .int .i64 (nxP s p (min n 240)), .int .i64 (wt (nxS s (min n 240)) (nxP s p (min n 240)))]

set_option maxHeartbeats 800000 in
theorem rmeasure_pos (s p t : Int) (w : World) (n : Int) (hn : 0 ≤ n) (h0 : 0 ≤ s) (h1 : s ≤ 1927) (h4 : 0 ≤ p) (h5 : p ≤ 963) :
    Calls Try.prog 13 #[.agg #[.int .i64 s, .int .i64 p, .int .i64 t], .int .u64 n] w fun e w' => e = .returned (.agg #[.int .i64 (nxS s (min n 240)), .int .i64 (nxP s p (min n 240)), .int .i64 (wt (nxS s (min n 240)) (nxP s p (min n 240)))]) ∧ Below w.heap.size w w' := by
  by_cases h : n < 240
  all_goals
    go_enter Try.func13, Try.ntmps13
    go_wp2
    all_goals
      go_quiet (fail)
      go_wp2_with (first | (go_at_call 16; refine (rbound_any _ _).mono ?_; rintro e w' ⟨rfl, rfl⟩))
      all_goals
        refine bodyPost_ret (v := .agg #[.int .i64 (nxS s (min n 240)), .int .i64 (nxP s p (min n 240)), .int .i64 (wt (nxS s (min n 240)) (nxP s p (min n 240)))]) ?_ rfl ⟨rfl, by repeat (first | exact below2 _ _ _ | (refine Below.setCell ?_ (by simp) _) | (refine below_drewN ?_ _))⟩
        simp [results, Try.results13, go_sem]
        unfold wt nxS nxP
        first | exact ⟨by omega, by omega, congrArg bnd (by omega)⟩

set_option maxHeartbeats 800000 in
theorem rmeasure_neg (t : Int) (w : World) (n : Int) (hn : 0 ≤ n) :
    Calls Try.prog 13 #[.agg #[.int .i64 (-1), .int .i64 (-1), .int .i64 t], .int .u64 n] w fun e w' => e = .returned (.agg #[.int .i64 (8 * min n 240), .int .i64 (2 * min n 240), .int .i64 (wt (8 * min n 240) (2 * min n 240))]) ∧ Below w.heap.size w w' := by
  by_cases h : n < 240
  all_goals
    go_enter Try.func13, Try.ntmps13
    go_wp2_with (first | (go_at_call 16; refine (rbound_any _ _).mono ?_; rintro e w' ⟨rfl, rfl⟩))
    all_goals
      refine bodyPost_ret (v := .agg #[.int .i64 (8 * min n 240), .int .i64 (2 * min n 240), .int .i64 (wt (8 * min n 240) (2 * min n 240))]) ?_ rfl ⟨rfl, by repeat (first | exact below2 _ _ _ | (refine Below.setCell ?_ (by simp) _) | (refine below_drewN ?_ _))⟩
      simp [results, Try.results13, go_sem]
      unfold wt
      first | exact ⟨by omega, by omega, congrArg bnd (by omega)⟩ | exact ⟨by omega, congrArg bnd (by omega)⟩ | exact congrArg bnd (by omega)

end Go.Proofs.Ytlogglgfpeeheaa
