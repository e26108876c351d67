import Derived.Test.YtmaiomgopbjfoaaGreatDoorK16
set_option linter.all false
/- Runs in a world with 4 other hosts. -/
namespace Go.Proofs.YtmaiomgopbjfoaaGreatDoor
open Go Mir
namespace Wa
theorem run_4_N : run tabN (i64 4) (s 3) = true := by kernel_rfl
theorem run_4_G : run (tabG 4) (i64 4) (s 3) = true := by kernel_rfl
theorem run_4_0 : run [] (i64 4) (i64 0) = true := by kernel_rfl
theorem run_4_1 : run [] (i64 4) (i64 1) = true := by kernel_rfl
theorem run_4_2 : run [] (i64 4) (i64 2) = true := by kernel_rfl
theorem run_4_3 : run [] (i64 4) (i64 3) = true := by kernel_rfl
theorem run_4_4 : run [] (i64 4) (i64 4) = true := by kernel_rfl
end Wa
end Go.Proofs.YtmaiomgopbjfoaaGreatDoor

