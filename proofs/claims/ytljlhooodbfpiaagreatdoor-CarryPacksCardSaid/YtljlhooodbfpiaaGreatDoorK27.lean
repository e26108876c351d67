import Derived.Test.YtljlhooodbfpiaaGreatDoorK26
set_option linter.all false
namespace Go.Proofs.YtljlhooodbfpiaaGreatDoor
open Go
set_option maxRecDepth 100000 in
theorem jf5 : joinedFacts Tryz.pinned.checked.prog 5 Tryz.f5 Rows.carryPacksSpec Rows.carryPacksRow = true := by
  unfold joinedFacts
  exact (bAnd (bAnd (bAnd (bAnd (bAnd (bAnd (bAnd (bAnd (bAnd (bAnd (bAnd (bAnd (bAnd (bAnd (bAnd (bAnd (bAnd (bAnd (bAnd (bAnd (bAnd (bAnd (bAnd (bAnd (bAnd (bAnd (bAnd (bAnd (bAnd (bAnd (bAnd jf5_1 jf5_2) jf5_3) jf5_4) jf5_5) jf5_6) jf5_7) jf5_8) jf5_9) jf5_10) jf5_11) jf5_12) jf5_13) jf5_14) jf5_15) jf5_16) jf5_17) jf5_18) jf5_19) jf5_20) jf5_21) jf5_22) jf5_23) jf5_24) jf5_25) jf5_26) jf5_27) jf5_28) jf5_29) jf5_30) jf5_31) jf5_32)
end Go.Proofs.YtljlhooodbfpiaaGreatDoor

