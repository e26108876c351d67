import Derived.Test.YtmaiomgopbjfoaaGreatDoorK16
set_option linter.all false
/- Runs in a world with 1 other hosts. -/
namespace Go.Proofs.YtmaiomgopbjfoaaGreatDoor
open Go Mir
namespace Wa
theorem run_1_N : run tabN (i64 1) (s 3) = true := by kernel_rfl
theorem run_1_G : run (tabG 1) (i64 1) (s 3) = true := by kernel_rfl
theorem run_1_0 : run [] (i64 1) (i64 0) = true := by kernel_rfl
theorem run_1_1 : run [] (i64 1) (i64 1) = true := by kernel_rfl
end Wa
end Go.Proofs.YtmaiomgopbjfoaaGreatDoor

/- Runs in a world with 2 other hosts. -/
namespace Go.Proofs.YtmaiomgopbjfoaaGreatDoor
open Go Mir
namespace Wa
theorem run_2_N : run tabN (i64 2) (s 3) = true := by kernel_rfl
theorem run_2_G : run (tabG 2) (i64 2) (s 3) = true := by kernel_rfl
theorem run_2_0 : run [] (i64 2) (i64 0) = true := by kernel_rfl
theorem run_2_1 : run [] (i64 2) (i64 1) = true := by kernel_rfl
theorem run_2_2 : run [] (i64 2) (i64 2) = true := by kernel_rfl
end Wa
end Go.Proofs.YtmaiomgopbjfoaaGreatDoor

