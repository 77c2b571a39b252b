/- The program's types and functions are laid out as the row asks. Condition: none. -/
import Derived.Test.YtejhenloolgmkaaGreatDoorRows
import Derived.JoinedOf
namespace Go.Proofs.YtejhenloolgmkaaGreatDoor
open Go
theorem fine0 : (List.range' 0 112).all (rowFine Tryz.prog) = true := by kernel_rfl
theorem fine1 : (List.range' 112 112).all (rowFine Tryz.prog) = true := by kernel_rfl
theorem fine2 : (List.range' 224 112).all (rowFine Tryz.prog) = true := by kernel_rfl
theorem fine3 : (List.range' 336 112).all (rowFine Tryz.prog) = true := by kernel_rfl
theorem fine4 : (List.range' 448 112).all (rowFine Tryz.prog) = true := by kernel_rfl
theorem fine5 : (List.range' 560 112).all (rowFine Tryz.prog) = true := by kernel_rfl
theorem fine6 : Tryz.prog.types.size = 672 := by kernel_rfl
theorem fine7 : Tryz.prog.globals.all (fun g => decide (g.type < Tryz.prog.types.size)) = true := by kernel_rfl
theorem fine8 : Tryz.prog.funcs.all (fun f => f.params.all fun t => decide (t < Tryz.prog.types.size)) = true := by kernel_rfl
theorem fine_all {P : Program} (h : ∀ k, k < 6 → (List.range' (112 * k) 112).all (rowFine P) = true) (hs : P.types.size = 672) : (List.range P.types.size).all (rowFine P) = true := by
  rw [hs, List.all_eq_true]
  intro t ht
  have ht' : t < 672 := List.mem_range.1 ht
  exact List.all_eq_true.1 (h (t / 112) (by omega)) t (List.mem_range'.2 ⟨t % 112, by omega, by omega⟩)
theorem c_laidOut : laidOutB Tryz.prog = true := by
  unfold laidOutB
  rw [fine_all (fun k hk => ?_) fine6, fine7, fine8]
  · rfl
  · match k, hk with
    | 0, _ => exact fine0
    | 1, _ => exact fine1
    | 2, _ => exact fine2
    | 3, _ => exact fine3
    | 4, _ => exact fine4
    | 5, _ => exact fine5
end Go.Proofs.YtejhenloolgmkaaGreatDoor
