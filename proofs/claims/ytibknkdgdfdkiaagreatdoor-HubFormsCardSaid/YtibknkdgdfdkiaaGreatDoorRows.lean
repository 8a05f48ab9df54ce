/-
  NARROWER THAN 'FOR EVERY INPUT', by the rows' own cells (each row's printed sentence says how): HubNil: laid · HubForms: laid · SiteNil: laid · SiteReads: laid.
  DERIVED. THE GIVEN ROWS OF THIS SEAT. 4 by the template 'for every input the law returns true; each argument reads behind the call as it read before'; 0 by the template 'total and deterministic' (their statements: YtibknkdgdfdkiaaGreatDoorTotals.lean).
  GIVEN WITH THE SEED: the statements are not yours to turn. If you find one false, say at which input.
  Laid BY PROGRAM, IN A SANDBOX (cutbox-rows.mjs): the forced cells as the released guide's own fill.sh prints them over the translation 1868904aa89a3261… (all of the seat's roots in one cut). By AI agents, Wed Nov 11 2026. No macro, syntax, notation, axiom, sorry.
-/
import Derived.Test.YtibknkdgdfdkiaaGreatDoorChecked
import GoSem.PinnedTables
import GoSem.Claim
import GoSem.ClaimJoined
import GoSem.ClaimMapViews
import Derived.JoinedTies
import Derived.KernelRfl
namespace Go.Proofs.YtibknkdgdfdkiaaGreatDoor
/- THE CELL 'sum', in the pinned program and in every row, IS THE sha256 OF THE DUMP (.gsa) THAT YtibknkdgdfdkiaaGreatDoorProg.lean LOADS. Nothing in Lean hashes anything: it is a label: what it is worth is what the hold of that sum in a sandbox is worth. -/
noncomputable def Tryz.pinned : Pinned := { name := "ytibknkdgdfdkiaagreatdoor", sum := "1868904aa89a326113094a3785fdbf3be19d80935087dc8cb5c2bf09705b49a3", checked := Tryz.checked }
namespace Rows
def none {H : Type} : Left H := { results := [], args := [] }

/- WHAT THE LISTED PACKAGE-LEVEL VARIABLES READ AS WHEN THE CALL BEGINS. Each datum BY PROGRAM (the guide's laid-datum.mjs) off the statement by which the dump's own 'gosem.cut.vars' lays the variable. In a bare row this is a premise. The card (YtibknkdgdfdkiaaGreatDoorCards.lean) ties it to the program's text. -/
/-- One of Go's own tables, pinned by name: the form's constant. -/
def laid_unicode_utf8_first : DataW Unit := Go.Pinned.utf8First
def laid_unicode_utf8_acceptRanges {H : Type} : DataW H := .agg [.agg [.lit (.int .u8 128), .lit (.int .u8 191)], .agg [.lit (.int .u8 160), .lit (.int .u8 191)], .agg [.lit (.int .u8 128), .lit (.int .u8 159)], .agg [.lit (.int .u8 144), .lit (.int .u8 191)], .agg [.lit (.int .u8 128), .lit (.int .u8 143)], .agg [.lit (.int .u8 0), .lit (.int .u8 0)], .agg [.lit (.int .u8 0), .lit (.int .u8 0)], .agg [.lit (.int .u8 0), .lit (.int .u8 0)], .agg [.lit (.int .u8 0), .lit (.int .u8 0)], .agg [.lit (.int .u8 0), .lit (.int .u8 0)], .agg [.lit (.int .u8 0), .lit (.int .u8 0)], .agg [.lit (.int .u8 0), .lit (.int .u8 0)], .agg [.lit (.int .u8 0), .lit (.int .u8 0)], .agg [.lit (.int .u8 0), .lit (.int .u8 0)], .agg [.lit (.int .u8 0), .lit (.int .u8 0)], .agg [.lit (.int .u8 0), .lit (.int .u8 0)]]
def laid_woodcut_chars_windows {H : Type} : DataW H := .agg [.lit (.int .i32 8364), .lit (.int .i32 129), .lit (.int .i32 8218), .lit (.int .i32 402), .lit (.int .i32 8222), .lit (.int .i32 8230), .lit (.int .i32 8224), .lit (.int .i32 8225), .lit (.int .i32 710), .lit (.int .i32 8240), .lit (.int .i32 352), .lit (.int .i32 8249), .lit (.int .i32 338), .lit (.int .i32 141), .lit (.int .i32 381), .lit (.int .i32 143), .lit (.int .i32 144), .lit (.int .i32 8216), .lit (.int .i32 8217), .lit (.int .i32 8220), .lit (.int .i32 8221), .lit (.int .i32 8226), .lit (.int .i32 8211), .lit (.int .i32 8212), .lit (.int .i32 732), .lit (.int .i32 8482), .lit (.int .i32 353), .lit (.int .i32 8250), .lit (.int .i32 339), .lit (.int .i32 157), .lit (.int .i32 382), .lit (.int .i32 376)]
def laid_woodcut_tree_names {H : Type} : DataW H := .slice [.agg [.lit (.string [102, 111, 114, 101, 105, 103, 110, 111, 98, 106, 101, 99, 116]), .lit (.string [102, 111, 114, 101, 105, 103, 110, 79, 98, 106, 101, 99, 116])], .agg [.lit (.string [99, 108, 105, 112, 112, 97, 116, 104]), .lit (.string [99, 108, 105, 112, 80, 97, 116, 104])], .agg [.lit (.string [108, 105, 110, 101, 97, 114, 103, 114, 97, 100, 105, 101, 110, 116]), .lit (.string [108, 105, 110, 101, 97, 114, 71, 114, 97, 100, 105, 101, 110, 116])], .agg [.lit (.string [114, 97, 100, 105, 97, 108, 103, 114, 97, 100, 105, 101, 110, 116]), .lit (.string [114, 97, 100, 105, 97, 108, 71, 114, 97, 100, 105, 101, 110, 116])], .agg [.lit (.string [116, 101, 120, 116, 112, 97, 116, 104]), .lit (.string [116, 101, 120, 116, 80, 97, 116, 104])]] []
def laid_internal_strconv_uint64pow10 {H : Type} : DataW H := .agg [.lit (.int .u64 1), .lit (.int .u64 10), .lit (.int .u64 100), .lit (.int .u64 1000), .lit (.int .u64 10000), .lit (.int .u64 100000), .lit (.int .u64 1000000), .lit (.int .u64 10000000), .lit (.int .u64 100000000), .lit (.int .u64 1000000000), .lit (.int .u64 10000000000), .lit (.int .u64 100000000000), .lit (.int .u64 1000000000000), .lit (.int .u64 10000000000000), .lit (.int .u64 100000000000000), .lit (.int .u64 1000000000000000), .lit (.int .u64 10000000000000000), .lit (.int .u64 100000000000000000), .lit (.int .u64 1000000000000000000), .lit (.int .u64 10000000000000000000)]
def laid_math_bits_deBruijn32tab {H : Type} : DataW H := .agg [.lit (.int .u8 0), .lit (.int .u8 1), .lit (.int .u8 28), .lit (.int .u8 2), .lit (.int .u8 29), .lit (.int .u8 14), .lit (.int .u8 24), .lit (.int .u8 3), .lit (.int .u8 30), .lit (.int .u8 22), .lit (.int .u8 20), .lit (.int .u8 15), .lit (.int .u8 25), .lit (.int .u8 17), .lit (.int .u8 4), .lit (.int .u8 8), .lit (.int .u8 31), .lit (.int .u8 27), .lit (.int .u8 13), .lit (.int .u8 23), .lit (.int .u8 21), .lit (.int .u8 19), .lit (.int .u8 16), .lit (.int .u8 7), .lit (.int .u8 26), .lit (.int .u8 12), .lit (.int .u8 18), .lit (.int .u8 6), .lit (.int .u8 11), .lit (.int .u8 5), .lit (.int .u8 10), .lit (.int .u8 9)]
def laid_math_bits_deBruijn64tab {H : Type} : DataW H := .agg [.lit (.int .u8 0), .lit (.int .u8 1), .lit (.int .u8 56), .lit (.int .u8 2), .lit (.int .u8 57), .lit (.int .u8 49), .lit (.int .u8 28), .lit (.int .u8 3), .lit (.int .u8 61), .lit (.int .u8 58), .lit (.int .u8 42), .lit (.int .u8 50), .lit (.int .u8 38), .lit (.int .u8 29), .lit (.int .u8 17), .lit (.int .u8 4), .lit (.int .u8 62), .lit (.int .u8 47), .lit (.int .u8 59), .lit (.int .u8 36), .lit (.int .u8 45), .lit (.int .u8 43), .lit (.int .u8 51), .lit (.int .u8 22), .lit (.int .u8 53), .lit (.int .u8 39), .lit (.int .u8 33), .lit (.int .u8 30), .lit (.int .u8 24), .lit (.int .u8 18), .lit (.int .u8 12), .lit (.int .u8 5), .lit (.int .u8 63), .lit (.int .u8 55), .lit (.int .u8 48), .lit (.int .u8 27), .lit (.int .u8 60), .lit (.int .u8 41), .lit (.int .u8 37), .lit (.int .u8 16), .lit (.int .u8 46), .lit (.int .u8 35), .lit (.int .u8 44), .lit (.int .u8 21), .lit (.int .u8 52), .lit (.int .u8 32), .lit (.int .u8 23), .lit (.int .u8 11), .lit (.int .u8 54), .lit (.int .u8 26), .lit (.int .u8 40), .lit (.int .u8 15), .lit (.int .u8 34), .lit (.int .u8 20), .lit (.int .u8 31), .lit (.int .u8 10), .lit (.int .u8 25), .lit (.int .u8 14), .lit (.int .u8 19), .lit (.int .u8 9), .lit (.int .u8 13), .lit (.int .u8 8), .lit (.int .u8 7), .lit (.int .u8 6)]
def laid_woodcut_hub_words {H : Type} : DataW H := .agg [.lit (.string []), .lit (.string [112, 117, 116]), .lit (.string [100, 114, 111, 112]), .lit (.string [98, 117, 105, 108, 100]), .lit (.string [112, 117, 98, 108, 105, 115, 104]), .lit (.string [114, 101, 97, 100]), .lit (.string [102, 117, 115, 101]), .lit (.string [99, 114, 97, 115, 104]), .lit (.string [115, 119, 101, 101, 112])]
def laid_strconv_ErrSyntax {H : Type} : DataW H := .iface "*errors.errorString" (.ptr (.agg [.lit (.string [105, 110, 118, 97, 108, 105, 100, 32, 115, 121, 110, 116, 97, 120])]))
def laid_strconv_ErrRange {H : Type} : DataW H := .iface "*errors.errorString" (.ptr (.agg [.lit (.string [118, 97, 108, 117, 101, 32, 111, 117, 116, 32, 111, 102, 32, 114, 97, 110, 103, 101])]))

/-- 'woodcutlaw25.HubNil': WHATEVER THE INPUT: true; the input reads as it did. -/
def hubNilSpec : ChangeSpec := { name := "hubNil", fn := fun _ => fun
  | [d] => { results := [.lit (.bool true)], args := [d] }
  | _ => none }
def hubNilRow : OpenClaim := { program := "ytibknkdgdfdkiaagreatdoor", sum := "1868904aa89a326113094a3785fdbf3be19d80935087dc8cb5c2bf09705b49a3", func := "woodcut/woodcutlaw25.HubNil", spec := "hubNil", inPlace := ["internal/bytealg.CountString", "internal/bytealg.IndexByteString", "internal/bytealg.IndexString", "slices.overlaps[string]", "slices.overlaps[[]byte]", "slices.overlaps[int]", "slices.overlaps[bool]", "internal/abi.NoEscape", "internal/bytealg.MakeNoZero", "slices.overlaps[woodcut/open.Form]", "slices.overlaps[woodcut/build.made]", "slices.overlaps[*woodcut/dep.Record]", "slices.overlaps[woodcut/link.Ready]", "maps.clone"], unfollowed := true, recurses := true, named := ["unicode/utf8.first", "unicode/utf8.acceptRanges", "internal/bytealg.MaxLen", "woodcut/chars.windows", "woodcut/tree.blocks", "woodcut/tree.heads", "woodcut/open.implied", "woodcut/tree.breaks", "woodcut/tree.tables", "woodcut/open.usual", "woodcut/tree.names", "woodcut/tree.special", "woodcut/tree.shaping", "woodcut/ser.voids", "woodcut/ser.raws", "internal/strconv.uint64pow10", "math/bits.deBruijn32tab", "math/bits.deBruijn64tab"], apart := false, laid := [("unicode/utf8.first", laid_unicode_utf8_first), ("unicode/utf8.acceptRanges", laid_unicode_utf8_acceptRanges), ("woodcut/chars.windows", laid_woodcut_chars_windows), ("woodcut/tree.names", laid_woodcut_tree_names), ("internal/strconv.uint64pow10", laid_internal_strconv_uint64pow10), ("math/bits.deBruijn32tab", laid_math_bits_deBruijn32tab), ("math/bits.deBruijn64tab", laid_math_bits_deBruijn64tab)] }
def HubNilSaid : Prop := hubNilRow.holds Tryz.pinned (OpenSpec.ofChange hubNilSpec)

/-- ITS FALSE NEIGHBOUR: 'it returns false'. Refute it at one input. -/
def hubNilWrong : ChangeSpec := { name := "hubNil", fn := fun _ => fun
  | [d] => { results := [.lit (.bool false)], args := [d] }
  | _ => none }
def HubNilWrongFalsely : Prop := hubNilRow.holds Tryz.pinned (OpenSpec.ofChange hubNilWrong)

/-- 'woodcutlaw25.HubForms': WHATEVER THE INPUT: true; the input reads as it did. -/
def hubFormsSpec : ChangeSpec := { name := "hubForms", fn := fun _ => fun
  | [d1, d2] => { results := [.lit (.bool true)], args := [d1, d2] }
  | _ => none }
def hubFormsRow : OpenClaim := { program := "ytibknkdgdfdkiaagreatdoor", sum := "1868904aa89a326113094a3785fdbf3be19d80935087dc8cb5c2bf09705b49a3", func := "woodcut/woodcutlaw25.HubForms", spec := "hubForms", inPlace := ["internal/bytealg.CountString", "internal/bytealg.IndexByteString", "internal/bytealg.IndexString", "slices.overlaps[string]", "slices.overlaps[[]byte]", "slices.overlaps[int]", "slices.overlaps[bool]", "internal/abi.NoEscape", "internal/bytealg.MakeNoZero", "slices.overlaps[woodcut/open.Form]", "slices.overlaps[woodcut/build.made]", "slices.overlaps[*woodcut/dep.Record]", "slices.overlaps[woodcut/link.Ready]", "maps.clone"], unfollowed := true, recurses := true, named := ["unicode/utf8.first", "unicode/utf8.acceptRanges", "internal/bytealg.MaxLen", "woodcut/chars.windows", "woodcut/tree.blocks", "woodcut/tree.heads", "woodcut/open.implied", "woodcut/tree.breaks", "woodcut/tree.tables", "woodcut/open.usual", "woodcut/tree.names", "woodcut/tree.special", "woodcut/tree.shaping", "woodcut/ser.voids", "woodcut/ser.raws", "internal/strconv.uint64pow10", "math/bits.deBruijn32tab", "math/bits.deBruijn64tab", "woodcut/hub.words", "strconv.ErrSyntax", "strconv.ErrRange"], apart := false, laid := [("unicode/utf8.first", laid_unicode_utf8_first), ("unicode/utf8.acceptRanges", laid_unicode_utf8_acceptRanges), ("woodcut/chars.windows", laid_woodcut_chars_windows), ("woodcut/tree.names", laid_woodcut_tree_names), ("internal/strconv.uint64pow10", laid_internal_strconv_uint64pow10), ("math/bits.deBruijn32tab", laid_math_bits_deBruijn32tab), ("math/bits.deBruijn64tab", laid_math_bits_deBruijn64tab), ("woodcut/hub.words", laid_woodcut_hub_words), ("strconv.ErrSyntax", laid_strconv_ErrSyntax), ("strconv.ErrRange", laid_strconv_ErrRange)] }
def HubFormsSaid : Prop := hubFormsRow.holds Tryz.pinned (OpenSpec.ofChange hubFormsSpec)

/-- ITS FALSE NEIGHBOUR: 'it returns false'. Refute it at one input. -/
def hubFormsWrong : ChangeSpec := { name := "hubForms", fn := fun _ => fun
  | [d1, d2] => { results := [.lit (.bool false)], args := [d1, d2] }
  | _ => none }
def HubFormsWrongFalsely : Prop := hubFormsRow.holds Tryz.pinned (OpenSpec.ofChange hubFormsWrong)

/-- 'woodcutlaw24.SiteNil': WHATEVER THE INPUT: true; the input reads as it did. -/
def siteNilSpec : ChangeSpec := { name := "siteNil", fn := fun _ => fun
  | [d] => { results := [.lit (.bool true)], args := [d] }
  | _ => none }
def siteNilRow : OpenClaim := { program := "ytibknkdgdfdkiaagreatdoor", sum := "1868904aa89a326113094a3785fdbf3be19d80935087dc8cb5c2bf09705b49a3", func := "woodcut/woodcutlaw24.SiteNil", spec := "siteNil", inPlace := ["slices.overlaps[string]", "slices.overlaps[[]byte]", "internal/bytealg.CountString", "internal/bytealg.IndexByteString", "internal/bytealg.IndexString", "internal/abi.NoEscape", "internal/bytealg.MakeNoZero", "maps.clone", "slices.overlaps[int]", "slices.overlaps[woodcut/open.Form]", "slices.overlaps[bool]"], unfollowed := true, recurses := true, named := ["unicode/utf8.first", "unicode/utf8.acceptRanges", "internal/bytealg.MaxLen", "internal/strconv.uint64pow10", "math/bits.deBruijn32tab", "math/bits.deBruijn64tab", "woodcut/chars.windows", "woodcut/tree.blocks", "woodcut/tree.heads", "woodcut/open.implied", "woodcut/tree.breaks", "woodcut/tree.tables", "woodcut/open.usual", "woodcut/tree.names", "woodcut/tree.special", "woodcut/tree.shaping"], apart := false, laid := [("unicode/utf8.first", laid_unicode_utf8_first), ("unicode/utf8.acceptRanges", laid_unicode_utf8_acceptRanges), ("internal/strconv.uint64pow10", laid_internal_strconv_uint64pow10), ("math/bits.deBruijn32tab", laid_math_bits_deBruijn32tab), ("math/bits.deBruijn64tab", laid_math_bits_deBruijn64tab), ("woodcut/chars.windows", laid_woodcut_chars_windows), ("woodcut/tree.names", laid_woodcut_tree_names)] }
def SiteNilSaid : Prop := siteNilRow.holds Tryz.pinned (OpenSpec.ofChange siteNilSpec)

/-- ITS FALSE NEIGHBOUR: 'it returns false'. Refute it at one input. -/
def siteNilWrong : ChangeSpec := { name := "siteNil", fn := fun _ => fun
  | [d] => { results := [.lit (.bool false)], args := [d] }
  | _ => none }
def SiteNilWrongFalsely : Prop := siteNilRow.holds Tryz.pinned (OpenSpec.ofChange siteNilWrong)

/-- 'woodcutlaw24.SiteReads': WHATEVER THE INPUT: true; the input reads as it did. -/
def siteReadsSpec : ChangeSpec := { name := "siteReads", fn := fun _ => fun
  | [d1, d2, d3] => { results := [.lit (.bool true)], args := [d1, d2, d3] }
  | _ => none }
def siteReadsRow : OpenClaim := { program := "ytibknkdgdfdkiaagreatdoor", sum := "1868904aa89a326113094a3785fdbf3be19d80935087dc8cb5c2bf09705b49a3", func := "woodcut/woodcutlaw24.SiteReads", spec := "siteReads", inPlace := ["slices.overlaps[string]", "slices.overlaps[[]byte]", "internal/bytealg.CountString", "internal/bytealg.IndexByteString", "internal/bytealg.IndexString", "internal/abi.NoEscape", "internal/bytealg.MakeNoZero", "maps.clone", "slices.overlaps[int]", "slices.overlaps[woodcut/open.Form]", "slices.overlaps[bool]"], unfollowed := true, recurses := true, named := ["unicode/utf8.first", "unicode/utf8.acceptRanges", "internal/bytealg.MaxLen", "internal/strconv.uint64pow10", "math/bits.deBruijn32tab", "math/bits.deBruijn64tab", "woodcut/chars.windows", "woodcut/tree.blocks", "woodcut/tree.heads", "woodcut/open.implied", "woodcut/tree.breaks", "woodcut/tree.tables", "woodcut/open.usual", "woodcut/tree.names", "woodcut/tree.special", "woodcut/tree.shaping"], apart := false, laid := [("unicode/utf8.first", laid_unicode_utf8_first), ("unicode/utf8.acceptRanges", laid_unicode_utf8_acceptRanges), ("internal/strconv.uint64pow10", laid_internal_strconv_uint64pow10), ("math/bits.deBruijn32tab", laid_math_bits_deBruijn32tab), ("math/bits.deBruijn64tab", laid_math_bits_deBruijn64tab), ("woodcut/chars.windows", laid_woodcut_chars_windows), ("woodcut/tree.names", laid_woodcut_tree_names)] }
def SiteReadsSaid : Prop := siteReadsRow.holds Tryz.pinned (OpenSpec.ofChange siteReadsSpec)

/-- ITS FALSE NEIGHBOUR: 'it returns false'. Refute it at one input. -/
def siteReadsWrong : ChangeSpec := { name := "siteReads", fn := fun _ => fun
  | [d1, d2, d3] => { results := [.lit (.bool false)], args := [d1, d2, d3] }
  | _ => none }
def SiteReadsWrongFalsely : Prop := siteReadsRow.holds Tryz.pinned (OpenSpec.ofChange siteReadsWrong)

/- THE SECOND FORM. 'bulk': how many values and letters a reading holds, each counted each time it is reached (what is shared counts as often as it is met; a slice's spare places count too). A statement '..UptoSaid' is the law's where the arguments, and the package variables that the reading takes, are together of bulk at most 1048576: NARROWER than '..Said'. Prove '..Said' where nothing that the law and all that it calls make is longer than what came in: it says more and counts as full. Else prove '..UptoSaid'. A law counts once. -/
mutual
def uptoBulk {H : Type} : DataW H → Nat
  | .lit (.string bytes) => bytes.length + 1
  | .lit _ => 1
  | .nil => 1
  | .ptr d => uptoBulk d + 1
  | .slice elems spare => uptoBulkAll elems + uptoBulkAll spare + 1
  | .agg parts => uptoBulkAll parts + 1
  | .iface _ d => uptoBulk d + 1
  | .map entries => uptoBulkEntries entries + 1
  | .held _ => 1
def uptoBulkAll {H : Type} : List (DataW H) → Nat
  | [] => 0
  | d :: r => uptoBulk d + uptoBulkAll r
def uptoBulkEntries {H : Type} : List (Lit × DataW H) → Nat
  | [] => 0
  | x :: r => uptoBulkEntry x + uptoBulkEntries r
def uptoBulkEntry {H : Type} : Lit × DataW H → Nat
  | (.string bytes, d) => bytes.length + uptoBulk d + 1
  | (_, d) => uptoBulk d + 1
 end
def uptoSmall : (H : Type) → List (DataW H) → Bool := fun _ ds => decide (uptoBulkAll ds ≤ 1048576)
def OpenSpec.upto (s : _root_.Go.ChangeSpec) : _root_.Go.OpenSpec := { _root_.Go.OpenSpec.ofChange s with cond := some uptoSmall }

/-- 'woodcutlaw25.HubNil', WHERE WHAT IT READS IS OF BULK AT MOST 1048576: true; the input reads as it did. -/
def hubNilUptoRow : OpenClaim := { program := "ytibknkdgdfdkiaagreatdoor", sum := "1868904aa89a326113094a3785fdbf3be19d80935087dc8cb5c2bf09705b49a3", func := "woodcut/woodcutlaw25.HubNil", spec := "hubNil", inPlace := ["internal/bytealg.CountString", "internal/bytealg.IndexByteString", "internal/bytealg.IndexString", "slices.overlaps[string]", "slices.overlaps[[]byte]", "slices.overlaps[int]", "slices.overlaps[bool]", "internal/abi.NoEscape", "internal/bytealg.MakeNoZero", "slices.overlaps[woodcut/open.Form]", "slices.overlaps[woodcut/build.made]", "slices.overlaps[*woodcut/dep.Record]", "slices.overlaps[woodcut/link.Ready]", "maps.clone"], unfollowed := true, recurses := true, named := ["unicode/utf8.first", "unicode/utf8.acceptRanges", "internal/bytealg.MaxLen", "woodcut/chars.windows", "woodcut/tree.blocks", "woodcut/tree.heads", "woodcut/open.implied", "woodcut/tree.breaks", "woodcut/tree.tables", "woodcut/open.usual", "woodcut/tree.names", "woodcut/tree.special", "woodcut/tree.shaping", "woodcut/ser.voids", "woodcut/ser.raws", "internal/strconv.uint64pow10", "math/bits.deBruijn32tab", "math/bits.deBruijn64tab"], apart := false, laid := [("unicode/utf8.first", laid_unicode_utf8_first), ("unicode/utf8.acceptRanges", laid_unicode_utf8_acceptRanges), ("woodcut/chars.windows", laid_woodcut_chars_windows), ("woodcut/tree.names", laid_woodcut_tree_names), ("internal/strconv.uint64pow10", laid_internal_strconv_uint64pow10), ("math/bits.deBruijn32tab", laid_math_bits_deBruijn32tab), ("math/bits.deBruijn64tab", laid_math_bits_deBruijn64tab)], narrowed := true }
def HubNilUptoSaid : Prop := hubNilUptoRow.holds Tryz.pinned (OpenSpec.upto hubNilSpec)

/-- 'woodcutlaw25.HubForms', WHERE WHAT IT READS IS OF BULK AT MOST 1048576: true; the input reads as it did. -/
def hubFormsUptoRow : OpenClaim := { program := "ytibknkdgdfdkiaagreatdoor", sum := "1868904aa89a326113094a3785fdbf3be19d80935087dc8cb5c2bf09705b49a3", func := "woodcut/woodcutlaw25.HubForms", spec := "hubForms", inPlace := ["internal/bytealg.CountString", "internal/bytealg.IndexByteString", "internal/bytealg.IndexString", "slices.overlaps[string]", "slices.overlaps[[]byte]", "slices.overlaps[int]", "slices.overlaps[bool]", "internal/abi.NoEscape", "internal/bytealg.MakeNoZero", "slices.overlaps[woodcut/open.Form]", "slices.overlaps[woodcut/build.made]", "slices.overlaps[*woodcut/dep.Record]", "slices.overlaps[woodcut/link.Ready]", "maps.clone"], unfollowed := true, recurses := true, named := ["unicode/utf8.first", "unicode/utf8.acceptRanges", "internal/bytealg.MaxLen", "woodcut/chars.windows", "woodcut/tree.blocks", "woodcut/tree.heads", "woodcut/open.implied", "woodcut/tree.breaks", "woodcut/tree.tables", "woodcut/open.usual", "woodcut/tree.names", "woodcut/tree.special", "woodcut/tree.shaping", "woodcut/ser.voids", "woodcut/ser.raws", "internal/strconv.uint64pow10", "math/bits.deBruijn32tab", "math/bits.deBruijn64tab", "woodcut/hub.words", "strconv.ErrSyntax", "strconv.ErrRange"], apart := false, laid := [("unicode/utf8.first", laid_unicode_utf8_first), ("unicode/utf8.acceptRanges", laid_unicode_utf8_acceptRanges), ("woodcut/chars.windows", laid_woodcut_chars_windows), ("woodcut/tree.names", laid_woodcut_tree_names), ("internal/strconv.uint64pow10", laid_internal_strconv_uint64pow10), ("math/bits.deBruijn32tab", laid_math_bits_deBruijn32tab), ("math/bits.deBruijn64tab", laid_math_bits_deBruijn64tab), ("woodcut/hub.words", laid_woodcut_hub_words), ("strconv.ErrSyntax", laid_strconv_ErrSyntax), ("strconv.ErrRange", laid_strconv_ErrRange)], narrowed := true }
def HubFormsUptoSaid : Prop := hubFormsUptoRow.holds Tryz.pinned (OpenSpec.upto hubFormsSpec)

/-- 'woodcutlaw24.SiteNil', WHERE WHAT IT READS IS OF BULK AT MOST 1048576: true; the input reads as it did. -/
def siteNilUptoRow : OpenClaim := { program := "ytibknkdgdfdkiaagreatdoor", sum := "1868904aa89a326113094a3785fdbf3be19d80935087dc8cb5c2bf09705b49a3", func := "woodcut/woodcutlaw24.SiteNil", spec := "siteNil", inPlace := ["slices.overlaps[string]", "slices.overlaps[[]byte]", "internal/bytealg.CountString", "internal/bytealg.IndexByteString", "internal/bytealg.IndexString", "internal/abi.NoEscape", "internal/bytealg.MakeNoZero", "maps.clone", "slices.overlaps[int]", "slices.overlaps[woodcut/open.Form]", "slices.overlaps[bool]"], unfollowed := true, recurses := true, named := ["unicode/utf8.first", "unicode/utf8.acceptRanges", "internal/bytealg.MaxLen", "internal/strconv.uint64pow10", "math/bits.deBruijn32tab", "math/bits.deBruijn64tab", "woodcut/chars.windows", "woodcut/tree.blocks", "woodcut/tree.heads", "woodcut/open.implied", "woodcut/tree.breaks", "woodcut/tree.tables", "woodcut/open.usual", "woodcut/tree.names", "woodcut/tree.special", "woodcut/tree.shaping"], apart := false, laid := [("unicode/utf8.first", laid_unicode_utf8_first), ("unicode/utf8.acceptRanges", laid_unicode_utf8_acceptRanges), ("internal/strconv.uint64pow10", laid_internal_strconv_uint64pow10), ("math/bits.deBruijn32tab", laid_math_bits_deBruijn32tab), ("math/bits.deBruijn64tab", laid_math_bits_deBruijn64tab), ("woodcut/chars.windows", laid_woodcut_chars_windows), ("woodcut/tree.names", laid_woodcut_tree_names)], narrowed := true }
def SiteNilUptoSaid : Prop := siteNilUptoRow.holds Tryz.pinned (OpenSpec.upto siteNilSpec)

/-- 'woodcutlaw24.SiteReads', WHERE WHAT IT READS IS OF BULK AT MOST 1048576: true; the input reads as it did. -/
def siteReadsUptoRow : OpenClaim := { program := "ytibknkdgdfdkiaagreatdoor", sum := "1868904aa89a326113094a3785fdbf3be19d80935087dc8cb5c2bf09705b49a3", func := "woodcut/woodcutlaw24.SiteReads", spec := "siteReads", inPlace := ["slices.overlaps[string]", "slices.overlaps[[]byte]", "internal/bytealg.CountString", "internal/bytealg.IndexByteString", "internal/bytealg.IndexString", "internal/abi.NoEscape", "internal/bytealg.MakeNoZero", "maps.clone", "slices.overlaps[int]", "slices.overlaps[woodcut/open.Form]", "slices.overlaps[bool]"], unfollowed := true, recurses := true, named := ["unicode/utf8.first", "unicode/utf8.acceptRanges", "internal/bytealg.MaxLen", "internal/strconv.uint64pow10", "math/bits.deBruijn32tab", "math/bits.deBruijn64tab", "woodcut/chars.windows", "woodcut/tree.blocks", "woodcut/tree.heads", "woodcut/open.implied", "woodcut/tree.breaks", "woodcut/tree.tables", "woodcut/open.usual", "woodcut/tree.names", "woodcut/tree.special", "woodcut/tree.shaping"], apart := false, laid := [("unicode/utf8.first", laid_unicode_utf8_first), ("unicode/utf8.acceptRanges", laid_unicode_utf8_acceptRanges), ("internal/strconv.uint64pow10", laid_internal_strconv_uint64pow10), ("math/bits.deBruijn32tab", laid_math_bits_deBruijn32tab), ("math/bits.deBruijn64tab", laid_math_bits_deBruijn64tab), ("woodcut/chars.windows", laid_woodcut_chars_windows), ("woodcut/tree.names", laid_woodcut_tree_names)], narrowed := true }
def SiteReadsUptoSaid : Prop := siteReadsUptoRow.holds Tryz.pinned (OpenSpec.upto siteReadsSpec)

end Rows
end Go.Proofs.YtibknkdgdfdkiaaGreatDoor
