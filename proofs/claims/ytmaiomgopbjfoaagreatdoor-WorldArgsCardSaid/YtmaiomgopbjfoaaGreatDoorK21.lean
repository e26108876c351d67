import Derived.Test.YtmaiomgopbjfoaaGreatDoorK16
set_option linter.all false
/- Runs in a world with 5 other hosts. -/
namespace Go.Proofs.YtmaiomgopbjfoaaGreatDoor
open Go Mir
namespace Wa
theorem run_5_N : run tabN (i64 5) (s 3) = true := by kernel_rfl
theorem run_5_G : run (tabG 5) (i64 5) (s 3) = true := by kernel_rfl
theorem run_5_0 : run [] (i64 5) (i64 0) = true := by kernel_rfl
theorem run_5_1 : run [] (i64 5) (i64 1) = true := by kernel_rfl
theorem run_5_2 : run [] (i64 5) (i64 2) = true := by kernel_rfl
theorem run_5_3 : run [] (i64 5) (i64 3) = true := by kernel_rfl
theorem run_5_4 : run [] (i64 5) (i64 4) = true := by kernel_rfl
theorem run_5_5 : run [] (i64 5) (i64 5) = true := by kernel_rfl
end Wa
end Go.Proofs.YtmaiomgopbjfoaaGreatDoor

