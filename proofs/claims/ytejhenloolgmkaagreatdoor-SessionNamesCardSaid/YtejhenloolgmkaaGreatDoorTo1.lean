/- The whole call returns true for these residues of the two arguments. Condition: none. -/
import Derived.Test.YtejhenloolgmkaaGreatDoorTp
namespace Go.Proofs.YtejhenloolgmkaaGreatDoor
open Go
set_option linter.all false
noncomputable section
namespace AM
/-! ## The whole call -/
theorem t15_1 : topOk 15 1 = true := by decide +kernel
theorem t15_5 : topOk 15 5 = true := by decide +kernel
theorem t15_9 : topOk 15 9 = true := by decide +kernel
theorem t15_13 : topOk 15 13 = true := by decide +kernel
theorem t16_1 : topOk 16 1 = true := by decide +kernel
theorem t16_5 : topOk 16 5 = true := by decide +kernel
theorem t16_9 : topOk 16 9 = true := by decide +kernel
theorem t16_13 : topOk 16 13 = true := by decide +kernel
theorem t17_0 : topOk 17 0 = true := by decide +kernel
theorem t17_4 : topOk 17 4 = true := by decide +kernel
theorem t17_8 : topOk 17 8 = true := by decide +kernel
theorem t17_12 : topOk 17 12 = true := by decide +kernel
theorem t17_16 : topOk 17 16 = true := by decide +kernel
theorem t18_2 : topOk 18 2 = true := by decide +kernel
theorem t18_6 : topOk 18 6 = true := by decide +kernel
theorem t18_10 : topOk 18 10 = true := by decide +kernel
theorem t18_14 : topOk 18 14 = true := by decide +kernel
theorem t18_18 : topOk 18 18 = true := by decide +kernel
end AM
end
end Go.Proofs.YtejhenloolgmkaaGreatDoor
