/- The tie of SessionNames's row to the program's text, proved: what the listed library variables hold is what the text lays. Condition: none. (The given Tie's lines, but for 'listedFits', which is proved here in small steps: the given text's own proof of it runs out of memory.) -/
import Derived.Test.YtejhenloolgmkaaGreatDoorRows
import Derived.LaidByTextLater
import Derived.SevenTiedAt
namespace Go.Proofs.YtejhenloolgmkaaGreatDoor
open Go
theorem pin_laid_unicode_utf8_first : Tryz.pinned.checked.prog.pinnedFits "unicode/utf8.first" = true := by kernel_rfl
theorem noOwnUnsafe : Tryz.pinned.checked.prog.headLifts.contains "ownunsafe" = false := by kernel_rfl
theorem funcsFit_of {P : Program} : ∀ {laid : List (String × DataW Unit)}, (∀ x ∈ laid, x.2.funcsIn? = none) → P.funcsFit laid = true := by
  intro laid h
  unfold Program.funcsFit
  rw [List.all_eq_true]
  intro x hx
  rw [h x hx]
theorem listedFits_of {P : Program} {laid : List (String × DataW Unit)} (h0 : P.headLifts.contains "ownunsafe" = false) (h : ∀ x ∈ laid, x.2.funcsIn? = none) : P.listedFits laid = true := by
  unfold Program.listedFits
  rw [h0, funcsFit_of h]
  rfl
theorem fits2 : Tryz.pinned.checked.prog.listedFits [("unicode/utf8.first", Rows.laid_unicode_utf8_first), ("unicode/utf8.acceptRanges", Rows.laid_unicode_utf8_acceptRanges), ("strconv.ErrSyntax", Rows.laid_strconv_ErrSyntax), ("strconv.ErrRange", Rows.laid_strconv_ErrRange), ("internal/strconv.uint64pow10", Rows.laid_internal_strconv_uint64pow10), ("math/bits.deBruijn32tab", Rows.laid_math_bits_deBruijn32tab), ("math/bits.deBruijn64tab", Rows.laid_math_bits_deBruijn64tab)] = true := by
  refine listedFits_of noOwnUnsafe ?_
  intro x hx
  simp only [List.mem_cons, List.mem_nil_iff, or_false] at hx
  rcases hx with rfl | rfl | rfl | rfl | rfl | rfl | rfl <;> rfl
abbrev ties : List (String × DataW Unit) := [("unicode/utf8.acceptRanges", Rows.laid_unicode_utf8_acceptRanges), ("strconv.ErrSyntax", Rows.laid_strconv_ErrSyntax), ("strconv.ErrRange", Rows.laid_strconv_ErrRange), ("internal/strconv.uint64pow10", Rows.laid_internal_strconv_uint64pow10), ("math/bits.deBruijn32tab", Rows.laid_math_bits_deBruijn32tab), ("math/bits.deBruijn64tab", Rows.laid_math_bits_deBruijn64tab)]
abbrev tieKinds : List LaidKind := [.data, .sentinel, .sentinel, .data, .data, .data]
theorem tie_hw : Tryz.prog.worded (varsWordLater true) = true := by kernel_rfl
theorem tie_hw' : Tryz.prog.worded (varsWordLater !true) = false := by kernel_rfl
theorem tie_hroot : Tryz.prog.worded rootWordLater = true := by kernel_rfl
theorem tie_hk : ties.map (fun x => Tryz.prog.kindOfLater x.1) = tieKinds.map some := by kernel_rfl
theorem tie_hg : (Tryz.prog.funcNamed "gosem.cut.vars").isSome = true := by kernel_rfl
theorem tie_hd (os : Os) (tape : Nat → Question → Nat) : varsDone Tryz.prog 400 (varsId Tryz.prog) os tape = true := by kernel_rfl
theorem tie_h1 (os : Os) (tape : Nat → Question → Nat) : (DataW.laidRun Tryz.prog (varsWorld Tryz.prog 400 (varsId Tryz.prog) os tape).memory 8 (ties.map (·.1))).map (·.1) = some ties := by kernel_rfl
theorem tie_h2 (os : Os) (tape : Nat → Question → Nat) : (DataW.laidRun Tryz.prog (varsWorld Tryz.prog 400 (varsId Tryz.prog) os tape).memory 8 (ties.map (·.1))).map (fun x => decide x.2.Nodup && laidRowsB Tryz.prog (varsWorld Tryz.prog 400 (varsId Tryz.prog) os tape).memory x.2) = some true := by kernel_rfl
theorem tie_hp : (ties.all fun x => x.2.handleName?.isNone) = true := by kernel_rfl
theorem tie_hn : varsNamedLaterB Tryz.prog (varsId Tryz.prog) ties = true := by kernel_rfl
theorem tie2 : Tryz.prog.laidByTextLater ties tieKinds true :=
  Program.laidByTextLater_by_run 400 8 tie_hw tie_hw' tie_hroot tie_hk tie_hg tie_hn tie_hd tie_h1 tie_h2 tie_hp
theorem sessionNames_row_tie : Rows.sessionNamesRow.laidByTextAt .later Tryz.pinned [.pinned, .data, .sentinel, .sentinel, .data, .data, .data] true :=
  OpenClaim.laidByTextAt_pinned rfl rfl tie2 rfl rfl rfl rfl (fun y hy _e => by
    simp only [Rows.sessionNamesRow, List.zip_cons_cons, List.zip_nil_right, List.mem_cons, List.mem_nil_iff, or_false] at hy
    rcases hy with rfl | rfl | rfl | rfl | rfl | rfl | rfl
    · exact ⟨pin_laid_unicode_utf8_first, by kernel_rfl⟩
    · cases _e
    · cases _e
    · cases _e
    · cases _e
    · cases _e
    · cases _e) fits2
end Go.Proofs.YtejhenloolgmkaaGreatDoor
