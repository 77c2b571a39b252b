/- The whole call returns true for these residues of the two arguments. Condition: none. -/
import Derived.Test.YtejhenloolgmkaaGreatDoorTp
namespace Go.Proofs.YtejhenloolgmkaaGreatDoor
open Go
set_option linter.all false
noncomputable section
namespace AM
/-! ## The whole call -/
theorem t15_0 : topOk 15 0 = true := by decide +kernel
theorem t15_4 : topOk 15 4 = true := by decide +kernel
theorem t15_8 : topOk 15 8 = true := by decide +kernel
theorem t15_12 : topOk 15 12 = true := by decide +kernel
theorem t16_0 : topOk 16 0 = true := by decide +kernel
theorem t16_4 : topOk 16 4 = true := by decide +kernel
theorem t16_8 : topOk 16 8 = true := by decide +kernel
theorem t16_12 : topOk 16 12 = true := by decide +kernel
theorem t16_16 : topOk 16 16 = true := by decide +kernel
theorem t17_3 : topOk 17 3 = true := by decide +kernel
theorem t17_7 : topOk 17 7 = true := by decide +kernel
theorem t17_11 : topOk 17 11 = true := by decide +kernel
theorem t17_15 : topOk 17 15 = true := by decide +kernel
theorem t18_1 : topOk 18 1 = true := by decide +kernel
theorem t18_5 : topOk 18 5 = true := by decide +kernel
theorem t18_9 : topOk 18 9 = true := by decide +kernel
theorem t18_13 : topOk 18 13 = true := by decide +kernel
theorem t18_17 : topOk 18 17 = true := by decide +kernel
end AM
end
end Go.Proofs.YtejhenloolgmkaaGreatDoor
