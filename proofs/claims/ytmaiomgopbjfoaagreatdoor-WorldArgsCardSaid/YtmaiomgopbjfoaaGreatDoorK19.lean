import Derived.Test.YtmaiomgopbjfoaaGreatDoorK16
set_option linter.all false
/- Runs in a world with 3 other hosts. -/
namespace Go.Proofs.YtmaiomgopbjfoaaGreatDoor
open Go Mir
namespace Wa
theorem run_3_N : run tabN (i64 3) (s 3) = true := by kernel_rfl
theorem run_3_G : run (tabG 3) (i64 3) (s 3) = true := by kernel_rfl
theorem run_3_0 : run [] (i64 3) (i64 0) = true := by kernel_rfl
theorem run_3_1 : run [] (i64 3) (i64 1) = true := by kernel_rfl
theorem run_3_2 : run [] (i64 3) (i64 2) = true := by kernel_rfl
theorem run_3_3 : run [] (i64 3) (i64 3) = true := by kernel_rfl
end Wa
end Go.Proofs.YtmaiomgopbjfoaaGreatDoor

