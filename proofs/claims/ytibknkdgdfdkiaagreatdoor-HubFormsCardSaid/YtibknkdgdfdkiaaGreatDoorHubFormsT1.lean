/- The tie's closed facts, part 1. -/
import Derived.Test.YtibknkdgdfdkiaaGreatDoorRows
import Derived.LaidByTextLater
import Derived.KernelRfl
namespace Go.Proofs.YtibknkdgdfdkiaaGreatDoor.hubForms
open Go
noncomputable abbrev listed : List (String × DataW Unit) := [("unicode/utf8.acceptRanges", Rows.laid_unicode_utf8_acceptRanges), ("woodcut/chars.windows", Rows.laid_woodcut_chars_windows), ("woodcut/tree.names", Rows.laid_woodcut_tree_names), ("internal/strconv.uint64pow10", Rows.laid_internal_strconv_uint64pow10), ("math/bits.deBruijn32tab", Rows.laid_math_bits_deBruijn32tab), ("math/bits.deBruijn64tab", Rows.laid_math_bits_deBruijn64tab), ("woodcut/hub.words", Rows.laid_woodcut_hub_words), ("strconv.ErrSyntax", Rows.laid_strconv_ErrSyntax), ("strconv.ErrRange", Rows.laid_strconv_ErrRange)]
theorem tw : Tryz.prog.worded (varsWordLater true) = true := by kernel_rfl
theorem tw' : Tryz.prog.worded (varsWordLater !true) = false := by kernel_rfl
theorem troot : Tryz.prog.worded rootWordLater = true := by kernel_rfl
theorem tg : (Tryz.prog.funcNamed "gosem.cut.vars").isSome = true := by kernel_rfl
theorem tk : listed.map (fun x => Tryz.prog.kindOfLater x.1) = [LaidKind.data, .data, .data, .data, .data, .data, .data, .sentinel, .sentinel].map some := by kernel_rfl
theorem thp : (listed.all fun x => x.2.handleName?.isNone) = true := by kernel_rfl
theorem pin_first : Tryz.pinned.checked.prog.pinnedFits "unicode/utf8.first" = true := by kernel_rfl
theorem noOwnUnsafe : Tryz.pinned.checked.prog.headLifts.contains "ownunsafe" = false := by kernel_rfl
theorem fits1 : Tryz.pinned.checked.prog.listedFits (("unicode/utf8.first", Rows.laid_unicode_utf8_first) :: listed) = true := by
  unfold Program.listedFits
  rw [noOwnUnsafe]
  kernel_rfl
end Go.Proofs.YtibknkdgdfdkiaaGreatDoor.hubForms
