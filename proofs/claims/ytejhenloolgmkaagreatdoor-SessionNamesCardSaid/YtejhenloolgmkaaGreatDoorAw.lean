/- The function awake returns true in the abstract machine. Condition: none. -/
import Derived.Test.YtejhenloolgmkaaGreatDoorSes
namespace Go.Proofs.YtejhenloolgmkaaGreatDoor
open Go
set_option linter.all false
noncomputable section
namespace AM
/-! ## awake, run -/
theorem awake_run : okC (evalF G F hkB 100000 400 8 [] ⟨h5, 1, fr0⟩) (fun v _ => eqAV (.b true) v) = true := by decide +kernel
end AM
end
end Go.Proofs.YtejhenloolgmkaaGreatDoor
