/- Closed facts of SessionNames's row: what its cells say of the program is what the program's form gives. Condition: none. -/
import Derived.Test.YtejhenloolgmkaaGreatDoorCt
import Derived.Test.YtejhenloolgmkaaGreatDoorRd
namespace Go.Proofs.YtejhenloolgmkaaGreatDoor
open Go
theorem c_wf : Rows.sessionNamesRow.wf (OpenSpec.ofChange Rows.sessionNamesSpec) = true := by kernel_rfl
theorem c_maps : mapsRowed Tryz.prog = true := by kernel_rfl
theorem c_tie : namedTie Tryz.prog Rows.sessionNamesRow.named Rows.sessionNamesSpec.vars = true := by kernel_rfl
theorem c_inPlace : (Rows.sessionNamesRow.inPlace == Tryz.prog.inPlace 3) = true := by rw [AM.c_inPlace]; kernel_rfl
theorem c_unf : (Rows.sessionNamesRow.unfollowed == Tryz.prog.unfollowed 3) = true := by rw [AM.c_unf]; rfl
theorem c_rec : (Rows.sessionNamesRow.recurses == Tryz.prog.recurses 3) = true := by rw [AM.recurses_told AM.c_unf]; rfl
theorem c_named : (Rows.sessionNamesRow.named == Tryz.prog.varsNamed 3) = true := by rw [AM.c_named]; kernel_rfl
theorem c_heard : Tryz.prog.stopsHeard = true := by kernel_rfl
theorem c_enter : Tryz.prog.mayEnter = true := by kernel_rfl
theorem c_lifted : (Rows.sessionNamesRow.lifted == Tryz.prog.liftsFinal) = true := by kernel_rfl
theorem c_make : (Tryz.prog.make == some Rows.sessionNamesRow.make) = true := by kernel_rfl
theorem sessionNames_closed : joinedFacts Tryz.prog 3 Tryz.f3 Rows.sessionNamesSpec Rows.sessionNamesRow = true := by
  unfold joinedFacts
  rw [c_wf, c_laidOut, c_maps, c_tie, c_inPlace, c_unf, c_rec, c_named, c_heard, c_enter, c_lifted, c_make]
  kernel_rfl
end Go.Proofs.YtejhenloolgmkaaGreatDoor
