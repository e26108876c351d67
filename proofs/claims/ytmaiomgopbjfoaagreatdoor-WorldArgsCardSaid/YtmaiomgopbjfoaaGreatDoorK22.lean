import Derived.Test.YtmaiomgopbjfoaaGreatDoorK16
set_option linter.all false
/- Runs in a world with 6 other hosts. -/
namespace Go.Proofs.YtmaiomgopbjfoaaGreatDoor
open Go Mir
namespace Wa
theorem run_6_N : run tabN (i64 6) (s 3) = true := by kernel_rfl
theorem run_6_G : run (tabG 6) (i64 6) (s 3) = true := by kernel_rfl
theorem run_6_0 : run [] (i64 6) (i64 0) = true := by kernel_rfl
theorem run_6_1 : run [] (i64 6) (i64 1) = true := by kernel_rfl
theorem run_6_2 : run [] (i64 6) (i64 2) = true := by kernel_rfl
theorem run_6_3 : run [] (i64 6) (i64 3) = true := by kernel_rfl
theorem run_6_4 : run [] (i64 6) (i64 4) = true := by kernel_rfl
theorem run_6_5 : run [] (i64 6) (i64 5) = true := by kernel_rfl
theorem run_6_6 : run [] (i64 6) (i64 6) = true := by kernel_rfl
end Wa
end Go.Proofs.YtmaiomgopbjfoaaGreatDoor

