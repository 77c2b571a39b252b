/- The whole call returns true for these residues of the two arguments. Condition: none. -/
import Derived.Test.YtejhenloolgmkaaGreatDoorTp
namespace Go.Proofs.YtejhenloolgmkaaGreatDoor
open Go
set_option linter.all false
noncomputable section
namespace AM
/-! ## The whole call -/
theorem t15_2 : topOk 15 2 = true := by decide +kernel
theorem t15_6 : topOk 15 6 = true := by decide +kernel
theorem t15_10 : topOk 15 10 = true := by decide +kernel
theorem t15_14 : topOk 15 14 = true := by decide +kernel
theorem t16_2 : topOk 16 2 = true := by decide +kernel
theorem t16_6 : topOk 16 6 = true := by decide +kernel
theorem t16_10 : topOk 16 10 = true := by decide +kernel
theorem t16_14 : topOk 16 14 = true := by decide +kernel
theorem t17_1 : topOk 17 1 = true := by decide +kernel
theorem t17_5 : topOk 17 5 = true := by decide +kernel
theorem t17_9 : topOk 17 9 = true := by decide +kernel
theorem t17_13 : topOk 17 13 = true := by decide +kernel
theorem t17_17 : topOk 17 17 = true := by decide +kernel
theorem t18_3 : topOk 18 3 = true := by decide +kernel
theorem t18_7 : topOk 18 7 = true := by decide +kernel
theorem t18_11 : topOk 18 11 = true := by decide +kernel
theorem t18_15 : topOk 18 15 = true := by decide +kernel
end AM
end
end Go.Proofs.YtejhenloolgmkaaGreatDoor
