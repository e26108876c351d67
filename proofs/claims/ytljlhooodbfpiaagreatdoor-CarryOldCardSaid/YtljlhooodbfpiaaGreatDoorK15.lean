import Derived.Test.YtljlhooodbfpiaaGreatDoorK14
set_option linter.all false
namespace Go.Proofs.YtljlhooodbfpiaaGreatDoor
open Go
set_option maxRecDepth 100000 in
theorem jf3 : joinedFacts Tryz.pinned.checked.prog 3 Tryz.f3 Rows.carryOldSpec Rows.carryOldRow = true := by
  unfold joinedFacts
  exact (bAnd (bAnd (bAnd (bAnd (bAnd (bAnd (bAnd (bAnd (bAnd (bAnd (bAnd (bAnd (bAnd (bAnd (bAnd (bAnd (bAnd (bAnd (bAnd (bAnd (bAnd (bAnd (bAnd (bAnd (bAnd (bAnd (bAnd (bAnd (bAnd (bAnd (bAnd jf3_1 jf3_2) jf3_3) jf3_4) jf3_5) jf3_6) jf3_7) jf3_8) jf3_9) jf3_10) jf3_11) jf3_12) jf3_13) jf3_14) jf3_15) jf3_16) jf3_17) jf3_18) jf3_19) jf3_20) jf3_21) jf3_22) jf3_23) jf3_24) jf3_25) jf3_26) jf3_27) jf3_28) jf3_29) jf3_30) jf3_31) jf3_32)
end Go.Proofs.YtljlhooodbfpiaaGreatDoor

