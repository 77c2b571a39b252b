/- The whole call returns true for these residues of the two arguments. Condition: none. -/
import Derived.Test.YtejhenloolgmkaaGreatDoorTp
namespace Go.Proofs.YtejhenloolgmkaaGreatDoor
open Go
set_option linter.all false
noncomputable section
namespace AM
/-! ## The whole call -/
theorem t15_3 : topOk 15 3 = true := by decide +kernel
theorem t15_7 : topOk 15 7 = true := by decide +kernel
theorem t15_11 : topOk 15 11 = true := by decide +kernel
theorem t15_15 : topOk 15 15 = true := by decide +kernel
theorem t16_3 : topOk 16 3 = true := by decide +kernel
theorem t16_7 : topOk 16 7 = true := by decide +kernel
theorem t16_11 : topOk 16 11 = true := by decide +kernel
theorem t16_15 : topOk 16 15 = true := by decide +kernel
theorem t17_2 : topOk 17 2 = true := by decide +kernel
theorem t17_6 : topOk 17 6 = true := by decide +kernel
theorem t17_10 : topOk 17 10 = true := by decide +kernel
theorem t17_14 : topOk 17 14 = true := by decide +kernel
theorem t18_0 : topOk 18 0 = true := by decide +kernel
theorem t18_4 : topOk 18 4 = true := by decide +kernel
theorem t18_8 : topOk 18 8 = true := by decide +kernel
theorem t18_12 : topOk 18 12 = true := by decide +kernel
theorem t18_16 : topOk 18 16 = true := by decide +kernel
end AM
end
end Go.Proofs.YtejhenloolgmkaaGreatDoor
