import Derived.Test.YtljlhooodbfpiaaGreatDoorK21
set_option linter.all false
namespace Go.Proofs.YtljlhooodbfpiaaGreatDoor
open Go
set_option maxRecDepth 100000 in
theorem jf4 : joinedFacts Tryz.pinned.checked.prog 4 Tryz.f4 Rows.carryOpensSpec Rows.carryOpensRow = true := by
  unfold joinedFacts
  exact (bAnd (bAnd (bAnd (bAnd (bAnd (bAnd (bAnd (bAnd (bAnd (bAnd (bAnd (bAnd (bAnd (bAnd (bAnd (bAnd (bAnd (bAnd (bAnd (bAnd (bAnd (bAnd (bAnd (bAnd (bAnd (bAnd (bAnd (bAnd (bAnd (bAnd (bAnd jf4_1 jf4_2) jf4_3) jf4_4) jf4_5) jf4_6) jf4_7) jf4_8) jf4_9) jf4_10) jf4_11) jf4_12) jf4_13) jf4_14) jf4_15) jf4_16) jf4_17) jf4_18) jf4_19) jf4_20) jf4_21) jf4_22) jf4_23) jf4_24) jf4_25) jf4_26) jf4_27) jf4_28) jf4_29) jf4_30) jf4_31) jf4_32)
end Go.Proofs.YtljlhooodbfpiaaGreatDoor

