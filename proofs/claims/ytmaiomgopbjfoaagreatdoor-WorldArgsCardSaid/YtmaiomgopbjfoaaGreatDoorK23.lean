import Derived.Test.YtmaiomgopbjfoaaGreatDoorK17
import Derived.Test.YtmaiomgopbjfoaaGreatDoorK18
import Derived.Test.YtmaiomgopbjfoaaGreatDoorK19
import Derived.Test.YtmaiomgopbjfoaaGreatDoorK20
import Derived.Test.YtmaiomgopbjfoaaGreatDoorK21
import Derived.Test.YtmaiomgopbjfoaaGreatDoorK22
set_option linter.all false
/- WorldArgs answers true, whatever the numbers are. -/
namespace Go.Proofs.YtmaiomgopbjfoaaGreatDoor
open Go Mir Go.RowKit
namespace Wa
theorem goal1 (i : Int) (W : World) : Goal 1 i W := by
  by_cases hn : i < 0
  · exact goal_of (ov := i64 1) rfl den3 (by kernel_rfl) (by kernel_rfl) (by kernel_rfl) (says_N hn) kt_ok run_1_N W
  by_cases hg : 1 < i
  · exact goal_of (ov := i64 1) rfl den3 (by kernel_rfl) (by kernel_rfl) (by kernel_rfl) (says_G (c := 1) (by decide) hg) kt_ok run_1_G W
  have h : i = 0 ∨ i = 1 := by omega
  rcases h with rfl | rfl
  · exact goal_of (tab := []) (ov := i64 1) (iv := i64 0) rfl rfl (by kernel_rfl) (by kernel_rfl) (by rfl) (fun _ h => by cases h) kt_ok run_1_0 W
  · exact goal_of (tab := []) (ov := i64 1) (iv := i64 1) rfl rfl (by kernel_rfl) (by kernel_rfl) (by rfl) (fun _ h => by cases h) kt_ok run_1_1 W
theorem goal2 (i : Int) (W : World) : Goal 2 i W := by
  by_cases hn : i < 0
  · exact goal_of (ov := i64 2) rfl den3 (by kernel_rfl) (by kernel_rfl) (by kernel_rfl) (says_N hn) kt_ok run_2_N W
  by_cases hg : 2 < i
  · exact goal_of (ov := i64 2) rfl den3 (by kernel_rfl) (by kernel_rfl) (by kernel_rfl) (says_G (c := 2) (by decide) hg) kt_ok run_2_G W
  have h : i = 0 ∨ i = 1 ∨ i = 2 := by omega
  rcases h with rfl | rfl | rfl
  · exact goal_of (tab := []) (ov := i64 2) (iv := i64 0) rfl rfl (by kernel_rfl) (by kernel_rfl) (by rfl) (fun _ h => by cases h) kt_ok run_2_0 W
  · exact goal_of (tab := []) (ov := i64 2) (iv := i64 1) rfl rfl (by kernel_rfl) (by kernel_rfl) (by rfl) (fun _ h => by cases h) kt_ok run_2_1 W
  · exact goal_of (tab := []) (ov := i64 2) (iv := i64 2) rfl rfl (by kernel_rfl) (by kernel_rfl) (by rfl) (fun _ h => by cases h) kt_ok run_2_2 W
theorem goal3 (i : Int) (W : World) : Goal 3 i W := by
  by_cases hn : i < 0
  · exact goal_of (ov := i64 3) rfl den3 (by kernel_rfl) (by kernel_rfl) (by kernel_rfl) (says_N hn) kt_ok run_3_N W
  by_cases hg : 3 < i
  · exact goal_of (ov := i64 3) rfl den3 (by kernel_rfl) (by kernel_rfl) (by kernel_rfl) (says_G (c := 3) (by decide) hg) kt_ok run_3_G W
  have h : i = 0 ∨ i = 1 ∨ i = 2 ∨ i = 3 := by omega
  rcases h with rfl | rfl | rfl | rfl
  · exact goal_of (tab := []) (ov := i64 3) (iv := i64 0) rfl rfl (by kernel_rfl) (by kernel_rfl) (by rfl) (fun _ h => by cases h) kt_ok run_3_0 W
  · exact goal_of (tab := []) (ov := i64 3) (iv := i64 1) rfl rfl (by kernel_rfl) (by kernel_rfl) (by rfl) (fun _ h => by cases h) kt_ok run_3_1 W
  · exact goal_of (tab := []) (ov := i64 3) (iv := i64 2) rfl rfl (by kernel_rfl) (by kernel_rfl) (by rfl) (fun _ h => by cases h) kt_ok run_3_2 W
  · exact goal_of (tab := []) (ov := i64 3) (iv := i64 3) rfl rfl (by kernel_rfl) (by kernel_rfl) (by rfl) (fun _ h => by cases h) kt_ok run_3_3 W
theorem goal4 (i : Int) (W : World) : Goal 4 i W := by
  by_cases hn : i < 0
  · exact goal_of (ov := i64 4) rfl den3 (by kernel_rfl) (by kernel_rfl) (by kernel_rfl) (says_N hn) kt_ok run_4_N W
  by_cases hg : 4 < i
  · exact goal_of (ov := i64 4) rfl den3 (by kernel_rfl) (by kernel_rfl) (by kernel_rfl) (says_G (c := 4) (by decide) hg) kt_ok run_4_G W
  have h : i = 0 ∨ i = 1 ∨ i = 2 ∨ i = 3 ∨ i = 4 := by omega
  rcases h with rfl | rfl | rfl | rfl | rfl
  · exact goal_of (tab := []) (ov := i64 4) (iv := i64 0) rfl rfl (by kernel_rfl) (by kernel_rfl) (by rfl) (fun _ h => by cases h) kt_ok run_4_0 W
  · exact goal_of (tab := []) (ov := i64 4) (iv := i64 1) rfl rfl (by kernel_rfl) (by kernel_rfl) (by rfl) (fun _ h => by cases h) kt_ok run_4_1 W
  · exact goal_of (tab := []) (ov := i64 4) (iv := i64 2) rfl rfl (by kernel_rfl) (by kernel_rfl) (by rfl) (fun _ h => by cases h) kt_ok run_4_2 W
  · exact goal_of (tab := []) (ov := i64 4) (iv := i64 3) rfl rfl (by kernel_rfl) (by kernel_rfl) (by rfl) (fun _ h => by cases h) kt_ok run_4_3 W
  · exact goal_of (tab := []) (ov := i64 4) (iv := i64 4) rfl rfl (by kernel_rfl) (by kernel_rfl) (by rfl) (fun _ h => by cases h) kt_ok run_4_4 W
theorem goal5 (i : Int) (W : World) : Goal 5 i W := by
  by_cases hn : i < 0
  · exact goal_of (ov := i64 5) rfl den3 (by kernel_rfl) (by kernel_rfl) (by kernel_rfl) (says_N hn) kt_ok run_5_N W
  by_cases hg : 5 < i
  · exact goal_of (ov := i64 5) rfl den3 (by kernel_rfl) (by kernel_rfl) (by kernel_rfl) (says_G (c := 5) (by decide) hg) kt_ok run_5_G W
  have h : i = 0 ∨ i = 1 ∨ i = 2 ∨ i = 3 ∨ i = 4 ∨ i = 5 := by omega
  rcases h with rfl | rfl | rfl | rfl | rfl | rfl
  · exact goal_of (tab := []) (ov := i64 5) (iv := i64 0) rfl rfl (by kernel_rfl) (by kernel_rfl) (by rfl) (fun _ h => by cases h) kt_ok run_5_0 W
  · exact goal_of (tab := []) (ov := i64 5) (iv := i64 1) rfl rfl (by kernel_rfl) (by kernel_rfl) (by rfl) (fun _ h => by cases h) kt_ok run_5_1 W
  · exact goal_of (tab := []) (ov := i64 5) (iv := i64 2) rfl rfl (by kernel_rfl) (by kernel_rfl) (by rfl) (fun _ h => by cases h) kt_ok run_5_2 W
  · exact goal_of (tab := []) (ov := i64 5) (iv := i64 3) rfl rfl (by kernel_rfl) (by kernel_rfl) (by rfl) (fun _ h => by cases h) kt_ok run_5_3 W
  · exact goal_of (tab := []) (ov := i64 5) (iv := i64 4) rfl rfl (by kernel_rfl) (by kernel_rfl) (by rfl) (fun _ h => by cases h) kt_ok run_5_4 W
  · exact goal_of (tab := []) (ov := i64 5) (iv := i64 5) rfl rfl (by kernel_rfl) (by kernel_rfl) (by rfl) (fun _ h => by cases h) kt_ok run_5_5 W
theorem goal6 (i : Int) (W : World) : Goal 6 i W := by
  by_cases hn : i < 0
  · exact goal_of (ov := i64 6) rfl den3 (by kernel_rfl) (by kernel_rfl) (by kernel_rfl) (says_N hn) kt_ok run_6_N W
  by_cases hg : 6 < i
  · exact goal_of (ov := i64 6) rfl den3 (by kernel_rfl) (by kernel_rfl) (by kernel_rfl) (says_G (c := 6) (by decide) hg) kt_ok run_6_G W
  have h : i = 0 ∨ i = 1 ∨ i = 2 ∨ i = 3 ∨ i = 4 ∨ i = 5 ∨ i = 6 := by omega
  rcases h with rfl | rfl | rfl | rfl | rfl | rfl | rfl
  · exact goal_of (tab := []) (ov := i64 6) (iv := i64 0) rfl rfl (by kernel_rfl) (by kernel_rfl) (by rfl) (fun _ h => by cases h) kt_ok run_6_0 W
  · exact goal_of (tab := []) (ov := i64 6) (iv := i64 1) rfl rfl (by kernel_rfl) (by kernel_rfl) (by rfl) (fun _ h => by cases h) kt_ok run_6_1 W
  · exact goal_of (tab := []) (ov := i64 6) (iv := i64 2) rfl rfl (by kernel_rfl) (by kernel_rfl) (by rfl) (fun _ h => by cases h) kt_ok run_6_2 W
  · exact goal_of (tab := []) (ov := i64 6) (iv := i64 3) rfl rfl (by kernel_rfl) (by kernel_rfl) (by rfl) (fun _ h => by cases h) kt_ok run_6_3 W
  · exact goal_of (tab := []) (ov := i64 6) (iv := i64 4) rfl rfl (by kernel_rfl) (by kernel_rfl) (by rfl) (fun _ h => by cases h) kt_ok run_6_4 W
  · exact goal_of (tab := []) (ov := i64 6) (iv := i64 5) rfl rfl (by kernel_rfl) (by kernel_rfl) (by rfl) (fun _ h => by cases h) kt_ok run_6_5 W
  · exact goal_of (tab := []) (ov := i64 6) (iv := i64 6) rfl rfl (by kernel_rfl) (by kernel_rfl) (by rfl) (fun _ h => by cases h) kt_ok run_6_6 W
theorem goal (o i : Int) (W : World) : Goal o i W := by
  by_cases h1 : o < 1
  · exact goal_of den51 den3 (by kernel_rfl) (by kernel_rfl) (by kernel_rfl) (says_L h1) kt_ok run_L W
  by_cases h2 : 6 < o
  · exact goal_of den51 den3 (by kernel_rfl) (by kernel_rfl) (by kernel_rfl) (says_H h2) kt_ok run_H W
  have h : o = 1 ∨ o = 2 ∨ o = 3 ∨ o = 4 ∨ o = 5 ∨ o = 6 := by omega
  rcases h with rfl | rfl | rfl | rfl | rfl | rfl
  · exact goal1 i W
  · exact goal2 i W
  · exact goal3 i W
  · exact goal4 i W
  · exact goal5 i W
  · exact goal6 i W
end Wa
end Go.Proofs.YtmaiomgopbjfoaaGreatDoor

