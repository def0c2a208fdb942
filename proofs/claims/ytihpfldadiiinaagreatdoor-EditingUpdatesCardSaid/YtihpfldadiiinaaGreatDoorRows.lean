/-
  NARROWER THAN 'FOR EVERY INPUT', by the rows' own cells (each row's printed sentence says how): TopEditsKeepLooks: laid · EditingRecords: laid · EditingDeletes: laid · EditingTells: laid · EditingUpdates: laid · EditingOnly: laid · EditingKeeps: laid · EditingSame: laid.
  DERIVED. THE GIVEN ROWS OF THIS SEAT. 8 by the template 'for every input the law returns true; each argument reads behind the call as it read before'; 0 by the template 'total and deterministic' (their statements: YtihpfldadiiinaaGreatDoorTotals.lean).
  GIVEN WITH THE SEED: the statements are not yours to turn. If you find one false, say at which input.
  Laid BY PROGRAM, IN A SANDBOX (cutbox-rows.mjs): the forced cells as the released guide's own fill.sh prints them over the translation e5c10b57a2765997… (all of the seat's roots in one cut). By AI agents, Wed Nov 11 2026. No macro, syntax, notation, axiom, sorry.
-/
import Derived.Test.YtihpfldadiiinaaGreatDoorChecked
import GoSem.Claim
import GoSem.ClaimJoined
import GoSem.ClaimMapViews
import Derived.JoinedTies
import Derived.KernelRfl
namespace Go.Proofs.YtihpfldadiiinaaGreatDoor
/- THE CELL 'sum', in the pinned program and in every row, IS THE sha256 OF THE DUMP (.gsa) THAT YtihpfldadiiinaaGreatDoorProg.lean LOADS. Nothing in Lean hashes anything: it is a label: what it is worth is what the hold of that sum in a sandbox is worth. -/
noncomputable def Tryz.pinned : Pinned := { name := "ytihpfldadiiinaagreatdoor", sum := "e5c10b57a27659970cc8119ac68980f6d45c51d8f870f761aa74fe94b4ed5096", checked := Tryz.checked }
namespace Rows
def none {H : Type} : Left H := { results := [], args := [] }

/- WHAT THE LISTED PACKAGE-LEVEL VARIABLES READ AS WHEN THE CALL BEGINS. Each datum BY PROGRAM (the guide's laid-datum.mjs) off the statement by which the dump's own 'gosem.cut.vars' lays the variable. In a bare row this is a premise. The card (YtihpfldadiiinaaGreatDoorCards.lean) ties it to the program's text. -/
def laid_math_bits_deBruijn32tab {H : Type} : DataW H := .agg [.lit (.int .u8 0), .lit (.int .u8 1), .lit (.int .u8 28), .lit (.int .u8 2), .lit (.int .u8 29), .lit (.int .u8 14), .lit (.int .u8 24), .lit (.int .u8 3), .lit (.int .u8 30), .lit (.int .u8 22), .lit (.int .u8 20), .lit (.int .u8 15), .lit (.int .u8 25), .lit (.int .u8 17), .lit (.int .u8 4), .lit (.int .u8 8), .lit (.int .u8 31), .lit (.int .u8 27), .lit (.int .u8 13), .lit (.int .u8 23), .lit (.int .u8 21), .lit (.int .u8 19), .lit (.int .u8 16), .lit (.int .u8 7), .lit (.int .u8 26), .lit (.int .u8 12), .lit (.int .u8 18), .lit (.int .u8 6), .lit (.int .u8 11), .lit (.int .u8 5), .lit (.int .u8 10), .lit (.int .u8 9)]
def laid_math_bits_deBruijn64tab {H : Type} : DataW H := .agg [.lit (.int .u8 0), .lit (.int .u8 1), .lit (.int .u8 56), .lit (.int .u8 2), .lit (.int .u8 57), .lit (.int .u8 49), .lit (.int .u8 28), .lit (.int .u8 3), .lit (.int .u8 61), .lit (.int .u8 58), .lit (.int .u8 42), .lit (.int .u8 50), .lit (.int .u8 38), .lit (.int .u8 29), .lit (.int .u8 17), .lit (.int .u8 4), .lit (.int .u8 62), .lit (.int .u8 47), .lit (.int .u8 59), .lit (.int .u8 36), .lit (.int .u8 45), .lit (.int .u8 43), .lit (.int .u8 51), .lit (.int .u8 22), .lit (.int .u8 53), .lit (.int .u8 39), .lit (.int .u8 33), .lit (.int .u8 30), .lit (.int .u8 24), .lit (.int .u8 18), .lit (.int .u8 12), .lit (.int .u8 5), .lit (.int .u8 63), .lit (.int .u8 55), .lit (.int .u8 48), .lit (.int .u8 27), .lit (.int .u8 60), .lit (.int .u8 41), .lit (.int .u8 37), .lit (.int .u8 16), .lit (.int .u8 46), .lit (.int .u8 35), .lit (.int .u8 44), .lit (.int .u8 21), .lit (.int .u8 52), .lit (.int .u8 32), .lit (.int .u8 23), .lit (.int .u8 11), .lit (.int .u8 54), .lit (.int .u8 26), .lit (.int .u8 40), .lit (.int .u8 15), .lit (.int .u8 34), .lit (.int .u8 20), .lit (.int .u8 31), .lit (.int .u8 10), .lit (.int .u8 25), .lit (.int .u8 14), .lit (.int .u8 19), .lit (.int .u8 9), .lit (.int .u8 13), .lit (.int .u8 8), .lit (.int .u8 7), .lit (.int .u8 6)]
def laid_internal_strconv_uint64pow10 {H : Type} : DataW H := .agg [.lit (.int .u64 1), .lit (.int .u64 10), .lit (.int .u64 100), .lit (.int .u64 1000), .lit (.int .u64 10000), .lit (.int .u64 100000), .lit (.int .u64 1000000), .lit (.int .u64 10000000), .lit (.int .u64 100000000), .lit (.int .u64 1000000000), .lit (.int .u64 10000000000), .lit (.int .u64 100000000000), .lit (.int .u64 1000000000000), .lit (.int .u64 10000000000000), .lit (.int .u64 100000000000000), .lit (.int .u64 1000000000000000), .lit (.int .u64 10000000000000000), .lit (.int .u64 100000000000000000), .lit (.int .u64 1000000000000000000), .lit (.int .u64 10000000000000000000)]
def laid_strconv_ErrRange {H : Type} : DataW H := .iface "*errors.errorString" (.ptr (.agg [.lit (.string [118, 97, 108, 117, 101, 32, 111, 117, 116, 32, 111, 102, 32, 114, 97, 110, 103, 101])]))
def laid_strconv_ErrSyntax {H : Type} : DataW H := .iface "*errors.errorString" (.ptr (.agg [.lit (.string [105, 110, 118, 97, 108, 105, 100, 32, 115, 121, 110, 116, 97, 120])]))

/-- 'luminairetop.TopEditsKeepLooks': WHATEVER THE INPUT: true; the input reads as it did. -/
def topEditsKeepLooksSpec : ChangeSpec := { name := "topEditsKeepLooks", fn := fun _ => fun
  | [d1, d2, d3] => { results := [.lit (.bool true)], args := [d1, d2, d3] }
  | _ => none }
def topEditsKeepLooksRow : OpenClaim := { program := "ytihpfldadiiinaagreatdoor", sum := "e5c10b57a27659970cc8119ac68980f6d45c51d8f870f761aa74fe94b4ed5096", func := "luminaire/luminairetop.TopEditsKeepLooks", spec := "topEditsKeepLooks", inPlace := ["internal/bytealg.IndexByteString", "internal/bytealg.IndexString", "slices.overlaps[luminaire/api.Move]"], unfollowed := true, recurses := true, named := ["internal/bytealg.MaxLen", "strconv.ErrSyntax", "strconv.ErrRange", "internal/strconv.uint64pow10", "math/bits.deBruijn32tab", "math/bits.deBruijn64tab"], plainKeys := false, apart := false, laid := [("math/bits.deBruijn32tab", laid_math_bits_deBruijn32tab), ("math/bits.deBruijn64tab", laid_math_bits_deBruijn64tab), ("internal/strconv.uint64pow10", laid_internal_strconv_uint64pow10), ("strconv.ErrRange", laid_strconv_ErrRange), ("strconv.ErrSyntax", laid_strconv_ErrSyntax)] }
def TopEditsKeepLooksSaid : Prop := topEditsKeepLooksRow.holds Tryz.pinned (OpenSpec.ofChange topEditsKeepLooksSpec)

/-- ITS FALSE NEIGHBOUR: 'it returns false'. Refute it at one input. -/
def topEditsKeepLooksWrong : ChangeSpec := { name := "topEditsKeepLooks", fn := fun _ => fun
  | [d1, d2, d3] => { results := [.lit (.bool false)], args := [d1, d2, d3] }
  | _ => none }
def TopEditsKeepLooksWrongFalsely : Prop := topEditsKeepLooksRow.holds Tryz.pinned (OpenSpec.ofChange topEditsKeepLooksWrong)

/-- 'luminairelaw19.EditingRecords': WHATEVER THE INPUT: true; the input reads as it did. -/
def editingRecordsSpec : ChangeSpec := { name := "editingRecords", fn := fun _ => fun
  | [d1, d2] => { results := [.lit (.bool true)], args := [d1, d2] }
  | _ => none }
def editingRecordsRow : OpenClaim := { program := "ytihpfldadiiinaagreatdoor", sum := "e5c10b57a27659970cc8119ac68980f6d45c51d8f870f761aa74fe94b4ed5096", func := "luminaire/luminairelaw19.EditingRecords", spec := "editingRecords", inPlace := ["internal/bytealg.IndexByteString", "internal/bytealg.IndexString", "slices.overlaps[luminaire/api.Move]"], unfollowed := true, recurses := true, named := ["internal/bytealg.MaxLen", "strconv.ErrSyntax", "strconv.ErrRange", "internal/strconv.uint64pow10", "math/bits.deBruijn32tab", "math/bits.deBruijn64tab"], plainKeys := false, apart := false, laid := [("math/bits.deBruijn32tab", laid_math_bits_deBruijn32tab), ("math/bits.deBruijn64tab", laid_math_bits_deBruijn64tab), ("internal/strconv.uint64pow10", laid_internal_strconv_uint64pow10), ("strconv.ErrRange", laid_strconv_ErrRange), ("strconv.ErrSyntax", laid_strconv_ErrSyntax)] }
def EditingRecordsSaid : Prop := editingRecordsRow.holds Tryz.pinned (OpenSpec.ofChange editingRecordsSpec)

/-- ITS FALSE NEIGHBOUR: 'it returns false'. Refute it at one input. -/
def editingRecordsWrong : ChangeSpec := { name := "editingRecords", fn := fun _ => fun
  | [d1, d2] => { results := [.lit (.bool false)], args := [d1, d2] }
  | _ => none }
def EditingRecordsWrongFalsely : Prop := editingRecordsRow.holds Tryz.pinned (OpenSpec.ofChange editingRecordsWrong)

/-- 'luminairelaw19.EditingDeletes': WHATEVER THE INPUT: true; the input reads as it did. -/
def editingDeletesSpec : ChangeSpec := { name := "editingDeletes", fn := fun _ => fun
  | [d1, d2, d3] => { results := [.lit (.bool true)], args := [d1, d2, d3] }
  | _ => none }
def editingDeletesRow : OpenClaim := { program := "ytihpfldadiiinaagreatdoor", sum := "e5c10b57a27659970cc8119ac68980f6d45c51d8f870f761aa74fe94b4ed5096", func := "luminaire/luminairelaw19.EditingDeletes", spec := "editingDeletes", inPlace := ["internal/bytealg.IndexByteString", "internal/bytealg.IndexString", "slices.overlaps[luminaire/api.Move]"], unfollowed := true, recurses := true, named := ["internal/bytealg.MaxLen", "strconv.ErrSyntax", "strconv.ErrRange", "internal/strconv.uint64pow10", "math/bits.deBruijn32tab", "math/bits.deBruijn64tab"], plainKeys := false, apart := false, laid := [("math/bits.deBruijn32tab", laid_math_bits_deBruijn32tab), ("math/bits.deBruijn64tab", laid_math_bits_deBruijn64tab), ("internal/strconv.uint64pow10", laid_internal_strconv_uint64pow10), ("strconv.ErrRange", laid_strconv_ErrRange), ("strconv.ErrSyntax", laid_strconv_ErrSyntax)] }
def EditingDeletesSaid : Prop := editingDeletesRow.holds Tryz.pinned (OpenSpec.ofChange editingDeletesSpec)

/-- ITS FALSE NEIGHBOUR: 'it returns false'. Refute it at one input. -/
def editingDeletesWrong : ChangeSpec := { name := "editingDeletes", fn := fun _ => fun
  | [d1, d2, d3] => { results := [.lit (.bool false)], args := [d1, d2, d3] }
  | _ => none }
def EditingDeletesWrongFalsely : Prop := editingDeletesRow.holds Tryz.pinned (OpenSpec.ofChange editingDeletesWrong)

/-- 'luminairelaw19.EditingTells': WHATEVER THE INPUT: true; the input reads as it did. -/
def editingTellsSpec : ChangeSpec := { name := "editingTells", fn := fun _ => fun
  | [d1, d2] => { results := [.lit (.bool true)], args := [d1, d2] }
  | _ => none }
def editingTellsRow : OpenClaim := { program := "ytihpfldadiiinaagreatdoor", sum := "e5c10b57a27659970cc8119ac68980f6d45c51d8f870f761aa74fe94b4ed5096", func := "luminaire/luminairelaw19.EditingTells", spec := "editingTells", inPlace := ["internal/bytealg.IndexByteString", "internal/bytealg.IndexString", "slices.overlaps[luminaire/api.Move]"], unfollowed := true, recurses := true, named := ["internal/bytealg.MaxLen", "strconv.ErrSyntax", "strconv.ErrRange", "internal/strconv.uint64pow10", "math/bits.deBruijn32tab", "math/bits.deBruijn64tab"], plainKeys := false, apart := false, laid := [("math/bits.deBruijn32tab", laid_math_bits_deBruijn32tab), ("math/bits.deBruijn64tab", laid_math_bits_deBruijn64tab), ("internal/strconv.uint64pow10", laid_internal_strconv_uint64pow10), ("strconv.ErrRange", laid_strconv_ErrRange), ("strconv.ErrSyntax", laid_strconv_ErrSyntax)] }
def EditingTellsSaid : Prop := editingTellsRow.holds Tryz.pinned (OpenSpec.ofChange editingTellsSpec)

/-- ITS FALSE NEIGHBOUR: 'it returns false'. Refute it at one input. -/
def editingTellsWrong : ChangeSpec := { name := "editingTells", fn := fun _ => fun
  | [d1, d2] => { results := [.lit (.bool false)], args := [d1, d2] }
  | _ => none }
def EditingTellsWrongFalsely : Prop := editingTellsRow.holds Tryz.pinned (OpenSpec.ofChange editingTellsWrong)

/-- 'luminairelaw19.EditingUpdates': WHATEVER THE INPUT: true; the input reads as it did. -/
def editingUpdatesSpec : ChangeSpec := { name := "editingUpdates", fn := fun _ => fun
  | [d1, d2, d3] => { results := [.lit (.bool true)], args := [d1, d2, d3] }
  | _ => none }
def editingUpdatesRow : OpenClaim := { program := "ytihpfldadiiinaagreatdoor", sum := "e5c10b57a27659970cc8119ac68980f6d45c51d8f870f761aa74fe94b4ed5096", func := "luminaire/luminairelaw19.EditingUpdates", spec := "editingUpdates", inPlace := ["internal/bytealg.IndexByteString", "internal/bytealg.IndexString", "slices.overlaps[luminaire/api.Move]"], unfollowed := true, recurses := true, named := ["internal/bytealg.MaxLen", "strconv.ErrSyntax", "strconv.ErrRange", "internal/strconv.uint64pow10", "math/bits.deBruijn32tab", "math/bits.deBruijn64tab"], plainKeys := false, apart := false, laid := [("math/bits.deBruijn32tab", laid_math_bits_deBruijn32tab), ("math/bits.deBruijn64tab", laid_math_bits_deBruijn64tab), ("internal/strconv.uint64pow10", laid_internal_strconv_uint64pow10), ("strconv.ErrRange", laid_strconv_ErrRange), ("strconv.ErrSyntax", laid_strconv_ErrSyntax)] }
def EditingUpdatesSaid : Prop := editingUpdatesRow.holds Tryz.pinned (OpenSpec.ofChange editingUpdatesSpec)

/-- ITS FALSE NEIGHBOUR: 'it returns false'. Refute it at one input. -/
def editingUpdatesWrong : ChangeSpec := { name := "editingUpdates", fn := fun _ => fun
  | [d1, d2, d3] => { results := [.lit (.bool false)], args := [d1, d2, d3] }
  | _ => none }
def EditingUpdatesWrongFalsely : Prop := editingUpdatesRow.holds Tryz.pinned (OpenSpec.ofChange editingUpdatesWrong)

/-- 'luminairelaw19.EditingOnly': WHATEVER THE INPUT: true; the input reads as it did. -/
def editingOnlySpec : ChangeSpec := { name := "editingOnly", fn := fun _ => fun
  | [d1, d2] => { results := [.lit (.bool true)], args := [d1, d2] }
  | _ => none }
def editingOnlyRow : OpenClaim := { program := "ytihpfldadiiinaagreatdoor", sum := "e5c10b57a27659970cc8119ac68980f6d45c51d8f870f761aa74fe94b4ed5096", func := "luminaire/luminairelaw19.EditingOnly", spec := "editingOnly", inPlace := ["internal/bytealg.IndexByteString", "internal/bytealg.IndexString", "slices.overlaps[luminaire/api.Move]"], unfollowed := true, recurses := true, named := ["internal/bytealg.MaxLen", "strconv.ErrSyntax", "strconv.ErrRange", "internal/strconv.uint64pow10", "math/bits.deBruijn32tab", "math/bits.deBruijn64tab"], plainKeys := false, apart := false, laid := [("math/bits.deBruijn32tab", laid_math_bits_deBruijn32tab), ("math/bits.deBruijn64tab", laid_math_bits_deBruijn64tab), ("internal/strconv.uint64pow10", laid_internal_strconv_uint64pow10), ("strconv.ErrRange", laid_strconv_ErrRange), ("strconv.ErrSyntax", laid_strconv_ErrSyntax)] }
def EditingOnlySaid : Prop := editingOnlyRow.holds Tryz.pinned (OpenSpec.ofChange editingOnlySpec)

/-- ITS FALSE NEIGHBOUR: 'it returns false'. Refute it at one input. -/
def editingOnlyWrong : ChangeSpec := { name := "editingOnly", fn := fun _ => fun
  | [d1, d2] => { results := [.lit (.bool false)], args := [d1, d2] }
  | _ => none }
def EditingOnlyWrongFalsely : Prop := editingOnlyRow.holds Tryz.pinned (OpenSpec.ofChange editingOnlyWrong)

/-- 'luminairelaw19.EditingKeeps': WHATEVER THE INPUT: true; the input reads as it did. -/
def editingKeepsSpec : ChangeSpec := { name := "editingKeeps", fn := fun _ => fun
  | [d1, d2] => { results := [.lit (.bool true)], args := [d1, d2] }
  | _ => none }
def editingKeepsRow : OpenClaim := { program := "ytihpfldadiiinaagreatdoor", sum := "e5c10b57a27659970cc8119ac68980f6d45c51d8f870f761aa74fe94b4ed5096", func := "luminaire/luminairelaw19.EditingKeeps", spec := "editingKeeps", inPlace := ["internal/bytealg.IndexByteString", "internal/bytealg.IndexString", "slices.overlaps[luminaire/api.Move]"], unfollowed := true, recurses := true, named := ["internal/bytealg.MaxLen", "strconv.ErrSyntax", "strconv.ErrRange", "internal/strconv.uint64pow10", "math/bits.deBruijn32tab", "math/bits.deBruijn64tab"], plainKeys := false, apart := false, laid := [("math/bits.deBruijn32tab", laid_math_bits_deBruijn32tab), ("math/bits.deBruijn64tab", laid_math_bits_deBruijn64tab), ("internal/strconv.uint64pow10", laid_internal_strconv_uint64pow10), ("strconv.ErrRange", laid_strconv_ErrRange), ("strconv.ErrSyntax", laid_strconv_ErrSyntax)] }
def EditingKeepsSaid : Prop := editingKeepsRow.holds Tryz.pinned (OpenSpec.ofChange editingKeepsSpec)

/-- ITS FALSE NEIGHBOUR: 'it returns false'. Refute it at one input. -/
def editingKeepsWrong : ChangeSpec := { name := "editingKeeps", fn := fun _ => fun
  | [d1, d2] => { results := [.lit (.bool false)], args := [d1, d2] }
  | _ => none }
def EditingKeepsWrongFalsely : Prop := editingKeepsRow.holds Tryz.pinned (OpenSpec.ofChange editingKeepsWrong)

/-- 'luminairelaw19.EditingSame': WHATEVER THE INPUT: true; the input reads as it did. -/
def editingSameSpec : ChangeSpec := { name := "editingSame", fn := fun _ => fun
  | [d1, d2] => { results := [.lit (.bool true)], args := [d1, d2] }
  | _ => none }
def editingSameRow : OpenClaim := { program := "ytihpfldadiiinaagreatdoor", sum := "e5c10b57a27659970cc8119ac68980f6d45c51d8f870f761aa74fe94b4ed5096", func := "luminaire/luminairelaw19.EditingSame", spec := "editingSame", inPlace := ["internal/bytealg.IndexByteString", "internal/bytealg.IndexString", "slices.overlaps[luminaire/api.Move]"], unfollowed := true, recurses := true, named := ["internal/bytealg.MaxLen", "strconv.ErrSyntax", "strconv.ErrRange", "internal/strconv.uint64pow10", "math/bits.deBruijn32tab", "math/bits.deBruijn64tab"], plainKeys := false, apart := false, laid := [("math/bits.deBruijn32tab", laid_math_bits_deBruijn32tab), ("math/bits.deBruijn64tab", laid_math_bits_deBruijn64tab), ("internal/strconv.uint64pow10", laid_internal_strconv_uint64pow10), ("strconv.ErrRange", laid_strconv_ErrRange), ("strconv.ErrSyntax", laid_strconv_ErrSyntax)] }
def EditingSameSaid : Prop := editingSameRow.holds Tryz.pinned (OpenSpec.ofChange editingSameSpec)

/-- ITS FALSE NEIGHBOUR: 'it returns false'. Refute it at one input. -/
def editingSameWrong : ChangeSpec := { name := "editingSame", fn := fun _ => fun
  | [d1, d2] => { results := [.lit (.bool false)], args := [d1, d2] }
  | _ => none }
def EditingSameWrongFalsely : Prop := editingSameRow.holds Tryz.pinned (OpenSpec.ofChange editingSameWrong)

/- THE SECOND FORM. 'bulk': how many values and letters a reading holds, each counted each time it is reached (what is shared counts as often as it is met; a slice's spare places count too). A statement '..UptoSaid' is the law's where the arguments, and the package variables that the reading takes, are together of bulk at most 1048576: NARROWER than '..Said'. Prove '..Said' where nothing that the law and all that it calls make is longer than what came in: it says more and counts as full. Else prove '..UptoSaid'. A law counts once. -/
mutual
def uptoBulk {H : Type} : DataW H → Nat
  | .lit (.string bytes) => bytes.length + 1
  | .lit _ => 1
  | .nil => 1
  | .ptr d => uptoBulk d + 1
  | .slice elems spare => uptoBulkAll elems + uptoBulkAll spare + 1
  | .agg parts => uptoBulkAll parts + 1
  | .iface _ d => uptoBulk d + 1
  | .map entries => uptoBulkEntries entries + 1
  | .held _ => 1
def uptoBulkAll {H : Type} : List (DataW H) → Nat
  | [] => 0
  | d :: r => uptoBulk d + uptoBulkAll r
def uptoBulkEntries {H : Type} : List (Lit × DataW H) → Nat
  | [] => 0
  | x :: r => uptoBulkEntry x + uptoBulkEntries r
def uptoBulkEntry {H : Type} : Lit × DataW H → Nat
  | (.string bytes, d) => bytes.length + uptoBulk d + 1
  | (_, d) => uptoBulk d + 1
 end
def uptoSmall : (H : Type) → List (DataW H) → Bool := fun _ ds => decide (uptoBulkAll ds ≤ 1048576)
def OpenSpec.upto (s : _root_.Go.ChangeSpec) : _root_.Go.OpenSpec := { _root_.Go.OpenSpec.ofChange s with cond := some uptoSmall }

/-- 'luminairetop.TopEditsKeepLooks', WHERE WHAT IT READS IS OF BULK AT MOST 1048576: true; the input reads as it did. -/
def topEditsKeepLooksUptoRow : OpenClaim := { program := "ytihpfldadiiinaagreatdoor", sum := "e5c10b57a27659970cc8119ac68980f6d45c51d8f870f761aa74fe94b4ed5096", func := "luminaire/luminairetop.TopEditsKeepLooks", spec := "topEditsKeepLooks", inPlace := ["internal/bytealg.IndexByteString", "internal/bytealg.IndexString", "slices.overlaps[luminaire/api.Move]"], unfollowed := true, recurses := true, named := ["internal/bytealg.MaxLen", "strconv.ErrSyntax", "strconv.ErrRange", "internal/strconv.uint64pow10", "math/bits.deBruijn32tab", "math/bits.deBruijn64tab"], plainKeys := false, apart := false, laid := [("math/bits.deBruijn32tab", laid_math_bits_deBruijn32tab), ("math/bits.deBruijn64tab", laid_math_bits_deBruijn64tab), ("internal/strconv.uint64pow10", laid_internal_strconv_uint64pow10), ("strconv.ErrRange", laid_strconv_ErrRange), ("strconv.ErrSyntax", laid_strconv_ErrSyntax)], narrowed := true }
def TopEditsKeepLooksUptoSaid : Prop := topEditsKeepLooksUptoRow.holds Tryz.pinned (OpenSpec.upto topEditsKeepLooksSpec)

/-- 'luminairelaw19.EditingRecords', WHERE WHAT IT READS IS OF BULK AT MOST 1048576: true; the input reads as it did. -/
def editingRecordsUptoRow : OpenClaim := { program := "ytihpfldadiiinaagreatdoor", sum := "e5c10b57a27659970cc8119ac68980f6d45c51d8f870f761aa74fe94b4ed5096", func := "luminaire/luminairelaw19.EditingRecords", spec := "editingRecords", inPlace := ["internal/bytealg.IndexByteString", "internal/bytealg.IndexString", "slices.overlaps[luminaire/api.Move]"], unfollowed := true, recurses := true, named := ["internal/bytealg.MaxLen", "strconv.ErrSyntax", "strconv.ErrRange", "internal/strconv.uint64pow10", "math/bits.deBruijn32tab", "math/bits.deBruijn64tab"], plainKeys := false, apart := false, laid := [("math/bits.deBruijn32tab", laid_math_bits_deBruijn32tab), ("math/bits.deBruijn64tab", laid_math_bits_deBruijn64tab), ("internal/strconv.uint64pow10", laid_internal_strconv_uint64pow10), ("strconv.ErrRange", laid_strconv_ErrRange), ("strconv.ErrSyntax", laid_strconv_ErrSyntax)], narrowed := true }
def EditingRecordsUptoSaid : Prop := editingRecordsUptoRow.holds Tryz.pinned (OpenSpec.upto editingRecordsSpec)

/-- 'luminairelaw19.EditingDeletes', WHERE WHAT IT READS IS OF BULK AT MOST 1048576: true; the input reads as it did. -/
def editingDeletesUptoRow : OpenClaim := { program := "ytihpfldadiiinaagreatdoor", sum := "e5c10b57a27659970cc8119ac68980f6d45c51d8f870f761aa74fe94b4ed5096", func := "luminaire/luminairelaw19.EditingDeletes", spec := "editingDeletes", inPlace := ["internal/bytealg.IndexByteString", "internal/bytealg.IndexString", "slices.overlaps[luminaire/api.Move]"], unfollowed := true, recurses := true, named := ["internal/bytealg.MaxLen", "strconv.ErrSyntax", "strconv.ErrRange", "internal/strconv.uint64pow10", "math/bits.deBruijn32tab", "math/bits.deBruijn64tab"], plainKeys := false, apart := false, laid := [("math/bits.deBruijn32tab", laid_math_bits_deBruijn32tab), ("math/bits.deBruijn64tab", laid_math_bits_deBruijn64tab), ("internal/strconv.uint64pow10", laid_internal_strconv_uint64pow10), ("strconv.ErrRange", laid_strconv_ErrRange), ("strconv.ErrSyntax", laid_strconv_ErrSyntax)], narrowed := true }
def EditingDeletesUptoSaid : Prop := editingDeletesUptoRow.holds Tryz.pinned (OpenSpec.upto editingDeletesSpec)

/-- 'luminairelaw19.EditingTells', WHERE WHAT IT READS IS OF BULK AT MOST 1048576: true; the input reads as it did. -/
def editingTellsUptoRow : OpenClaim := { program := "ytihpfldadiiinaagreatdoor", sum := "e5c10b57a27659970cc8119ac68980f6d45c51d8f870f761aa74fe94b4ed5096", func := "luminaire/luminairelaw19.EditingTells", spec := "editingTells", inPlace := ["internal/bytealg.IndexByteString", "internal/bytealg.IndexString", "slices.overlaps[luminaire/api.Move]"], unfollowed := true, recurses := true, named := ["internal/bytealg.MaxLen", "strconv.ErrSyntax", "strconv.ErrRange", "internal/strconv.uint64pow10", "math/bits.deBruijn32tab", "math/bits.deBruijn64tab"], plainKeys := false, apart := false, laid := [("math/bits.deBruijn32tab", laid_math_bits_deBruijn32tab), ("math/bits.deBruijn64tab", laid_math_bits_deBruijn64tab), ("internal/strconv.uint64pow10", laid_internal_strconv_uint64pow10), ("strconv.ErrRange", laid_strconv_ErrRange), ("strconv.ErrSyntax", laid_strconv_ErrSyntax)], narrowed := true }
def EditingTellsUptoSaid : Prop := editingTellsUptoRow.holds Tryz.pinned (OpenSpec.upto editingTellsSpec)

/-- 'luminairelaw19.EditingUpdates', WHERE WHAT IT READS IS OF BULK AT MOST 1048576: true; the input reads as it did. -/
def editingUpdatesUptoRow : OpenClaim := { program := "ytihpfldadiiinaagreatdoor", sum := "e5c10b57a27659970cc8119ac68980f6d45c51d8f870f761aa74fe94b4ed5096", func := "luminaire/luminairelaw19.EditingUpdates", spec := "editingUpdates", inPlace := ["internal/bytealg.IndexByteString", "internal/bytealg.IndexString", "slices.overlaps[luminaire/api.Move]"], unfollowed := true, recurses := true, named := ["internal/bytealg.MaxLen", "strconv.ErrSyntax", "strconv.ErrRange", "internal/strconv.uint64pow10", "math/bits.deBruijn32tab", "math/bits.deBruijn64tab"], plainKeys := false, apart := false, laid := [("math/bits.deBruijn32tab", laid_math_bits_deBruijn32tab), ("math/bits.deBruijn64tab", laid_math_bits_deBruijn64tab), ("internal/strconv.uint64pow10", laid_internal_strconv_uint64pow10), ("strconv.ErrRange", laid_strconv_ErrRange), ("strconv.ErrSyntax", laid_strconv_ErrSyntax)], narrowed := true }
def EditingUpdatesUptoSaid : Prop := editingUpdatesUptoRow.holds Tryz.pinned (OpenSpec.upto editingUpdatesSpec)

/-- 'luminairelaw19.EditingOnly', WHERE WHAT IT READS IS OF BULK AT MOST 1048576: true; the input reads as it did. -/
def editingOnlyUptoRow : OpenClaim := { program := "ytihpfldadiiinaagreatdoor", sum := "e5c10b57a27659970cc8119ac68980f6d45c51d8f870f761aa74fe94b4ed5096", func := "luminaire/luminairelaw19.EditingOnly", spec := "editingOnly", inPlace := ["internal/bytealg.IndexByteString", "internal/bytealg.IndexString", "slices.overlaps[luminaire/api.Move]"], unfollowed := true, recurses := true, named := ["internal/bytealg.MaxLen", "strconv.ErrSyntax", "strconv.ErrRange", "internal/strconv.uint64pow10", "math/bits.deBruijn32tab", "math/bits.deBruijn64tab"], plainKeys := false, apart := false, laid := [("math/bits.deBruijn32tab", laid_math_bits_deBruijn32tab), ("math/bits.deBruijn64tab", laid_math_bits_deBruijn64tab), ("internal/strconv.uint64pow10", laid_internal_strconv_uint64pow10), ("strconv.ErrRange", laid_strconv_ErrRange), ("strconv.ErrSyntax", laid_strconv_ErrSyntax)], narrowed := true }
def EditingOnlyUptoSaid : Prop := editingOnlyUptoRow.holds Tryz.pinned (OpenSpec.upto editingOnlySpec)

/-- 'luminairelaw19.EditingKeeps', WHERE WHAT IT READS IS OF BULK AT MOST 1048576: true; the input reads as it did. -/
def editingKeepsUptoRow : OpenClaim := { program := "ytihpfldadiiinaagreatdoor", sum := "e5c10b57a27659970cc8119ac68980f6d45c51d8f870f761aa74fe94b4ed5096", func := "luminaire/luminairelaw19.EditingKeeps", spec := "editingKeeps", inPlace := ["internal/bytealg.IndexByteString", "internal/bytealg.IndexString", "slices.overlaps[luminaire/api.Move]"], unfollowed := true, recurses := true, named := ["internal/bytealg.MaxLen", "strconv.ErrSyntax", "strconv.ErrRange", "internal/strconv.uint64pow10", "math/bits.deBruijn32tab", "math/bits.deBruijn64tab"], plainKeys := false, apart := false, laid := [("math/bits.deBruijn32tab", laid_math_bits_deBruijn32tab), ("math/bits.deBruijn64tab", laid_math_bits_deBruijn64tab), ("internal/strconv.uint64pow10", laid_internal_strconv_uint64pow10), ("strconv.ErrRange", laid_strconv_ErrRange), ("strconv.ErrSyntax", laid_strconv_ErrSyntax)], narrowed := true }
def EditingKeepsUptoSaid : Prop := editingKeepsUptoRow.holds Tryz.pinned (OpenSpec.upto editingKeepsSpec)

/-- 'luminairelaw19.EditingSame', WHERE WHAT IT READS IS OF BULK AT MOST 1048576: true; the input reads as it did. -/
def editingSameUptoRow : OpenClaim := { program := "ytihpfldadiiinaagreatdoor", sum := "e5c10b57a27659970cc8119ac68980f6d45c51d8f870f761aa74fe94b4ed5096", func := "luminaire/luminairelaw19.EditingSame", spec := "editingSame", inPlace := ["internal/bytealg.IndexByteString", "internal/bytealg.IndexString", "slices.overlaps[luminaire/api.Move]"], unfollowed := true, recurses := true, named := ["internal/bytealg.MaxLen", "strconv.ErrSyntax", "strconv.ErrRange", "internal/strconv.uint64pow10", "math/bits.deBruijn32tab", "math/bits.deBruijn64tab"], plainKeys := false, apart := false, laid := [("math/bits.deBruijn32tab", laid_math_bits_deBruijn32tab), ("math/bits.deBruijn64tab", laid_math_bits_deBruijn64tab), ("internal/strconv.uint64pow10", laid_internal_strconv_uint64pow10), ("strconv.ErrRange", laid_strconv_ErrRange), ("strconv.ErrSyntax", laid_strconv_ErrSyntax)], narrowed := true }
def EditingSameUptoSaid : Prop := editingSameUptoRow.holds Tryz.pinned (OpenSpec.upto editingSameSpec)

end Rows
end Go.Proofs.YtihpfldadiiinaaGreatDoor
