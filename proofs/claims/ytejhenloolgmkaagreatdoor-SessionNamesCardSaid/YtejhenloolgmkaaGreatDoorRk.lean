/- SessionNames is proved, by its card: whatever the two arguments, the call returns true, and all that was there before is as it was; the listed library tables hold what the program's text lays. Condition: none beyond the card's own. -/
import Derived.Test.YtejhenloolgmkaaGreatDoorCards
import Derived.Test.YtejhenloolgmkaaGreatDoorRz
import Derived.Test.YtejhenloolgmkaaGreatDoorOwnTie
import Derived.SevenTiedAt
namespace Go.Proofs.YtejhenloolgmkaaGreatDoor
open Go
theorem k_func : Tryz.prog.funcNamed "sparse/sparselaw44.SessionNames" = some 3 := by kernel_rfl
theorem k_int : Tryz.prog.wantsStandIn 3 = false := by kernel_rfl
theorem k_main : Tryz.prog.mainIs = some (true, "c0688a315d57ef50801998ad8b1dd3befff3bee6e347a65cc34652ac707e2502".toList) := by kernel_rfl
theorem k_by : Rows.sessionNamesRow.wfByText (OpenSpec.ofChange Rows.sessionNamesSpec) = true := by kernel_rfl
theorem k_all : Tryz.prog.funcs.any Func.goes = false := by kernel_rfl
theorem k_looks : true = Tryz.prog.looks [] := by kernel_rfl
theorem goes_none {P : Program} (h : P.funcs.any Func.goes = false) (f : FuncId) : P.goes f = false := by
  unfold Program.goes
  rw [h, Bool.and_false, Bool.or_false, List.any_eq_false]
  intro g _
  cases hg : P.funcs[g]? with
  | none => simp
  | some fn =>
    obtain ⟨hlt, rfl⟩ := Array.getElem?_eq_some_iff.1 hg
    have := Array.any_eq_false.1 h g hlt
    simpa using this
theorem k_goes : false = Rows.sessionNamesRow.goesBy Tryz.pinned.checked.prog := by
  show false = (Tryz.prog.goesFrom "sparse/sparselaw44.SessionNames" || false)
  unfold Program.goesFrom
  rw [k_func, Option.any_some, goes_none k_all]; rfl
theorem sessionNames_card : Rows.SessionNamesCardSaid :=
  Claim7.holds_tied_plain_at .later [] [.pinned, .data, .sentinel, .sentinel, .data, .data, .data] true (true, "c0688a315d57ef50801998ad8b1dd3befff3bee6e347a65cc34652ac707e2502") true
    sessionNames_holds (fun _ h => by cases h) k_by (fun _ h => by cases h) sessionNames_row_tie rfl ⟨rfl, rfl⟩ k_main rfl
    (fun f fn hf hfn => by
      obtain rfl : f = 3 := Option.some.inj (k_func.symm.trans hf) |>.symm
      obtain rfl : fn = Tryz.f3 := (Option.some.inj (Tryz.func3.symm.trans hfn)).symm
      exact ⟨k_looks, fun j t ht => by
        rw [Tryz.params3] at ht
        have hm : t ∈ [3, 3] := by simpa using Array.mem_of_getElem? ht
        have h3 : t = 3 := by simpa using hm
        subst h3
        exact k_int⟩)
    k_goes
#print axioms sessionNames_card
end Go.Proofs.YtejhenloolgmkaaGreatDoor
