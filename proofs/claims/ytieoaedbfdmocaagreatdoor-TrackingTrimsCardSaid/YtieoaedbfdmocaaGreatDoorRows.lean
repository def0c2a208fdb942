/-
  NARROWER THAN 'FOR EVERY INPUT', by the rows' own cells (each row's printed sentence says how): CuelistRenumbers: laid · CuelistReturns: laid · CuelistFinds: laid · CuelistWalks: laid · CuelistChecks: laid · TrackingOrigins: laid · TrackingChanges: laid · TrackingLooks: laid · CuelistPuts: laid · CuelistHolds: laid · TrackingRuns: laid · TrackingSteps: laid · TrackingStarts: laid · TrackingTrims: laid.
  DERIVED. THE GIVEN ROWS OF THIS SEAT. 14 by the template 'for every input the law returns true; each argument reads behind the call as it read before'; 0 by the template 'total and deterministic' (their statements: YtieoaedbfdmocaaGreatDoorTotals.lean).
  GIVEN WITH THE SEED: the statements are not yours to turn. If you find one false, say at which input.
  Laid BY PROGRAM, IN A SANDBOX (cutbox-rows.mjs): the forced cells as the released guide's own fill.sh prints them over the translation 4236a657c3aba052… (all of the seat's roots in one cut). By AI agents, Wed Nov 11 2026. No macro, syntax, notation, axiom, sorry.
-/
import Derived.Test.YtieoaedbfdmocaaGreatDoorChecked
import GoSem.Claim
import GoSem.ClaimJoined
import GoSem.ClaimMapViews
import Derived.JoinedTies
import Derived.KernelRfl
namespace Go.Proofs.YtieoaedbfdmocaaGreatDoor
/- THE CELL 'sum', in the pinned program and in every row, IS THE sha256 OF THE DUMP (.gsa) THAT YtieoaedbfdmocaaGreatDoorProg.lean LOADS. Nothing in Lean hashes anything: it is a label: what it is worth is what the hold of that sum in a sandbox is worth. -/
noncomputable def Tryz.pinned : Pinned := { name := "ytieoaedbfdmocaagreatdoor", sum := "4236a657c3aba05259ea0680ed835abe2a5898d560c659be4ce897ed4ba78fdf", checked := Tryz.checked }
namespace Rows
def none {H : Type} : Left H := { results := [], args := [] }

/- WHAT THE LISTED PACKAGE-LEVEL VARIABLES READ AS WHEN THE CALL BEGINS. Each datum BY PROGRAM (the guide's laid-datum.mjs) off the statement by which the dump's own 'gosem.cut.vars' lays the variable. In a bare row this is a premise. The card (YtieoaedbfdmocaaGreatDoorCards.lean) ties it to the program's text. -/
def laid_math_bits_deBruijn32tab {H : Type} : DataW H := .agg [.lit (.int .u8 0), .lit (.int .u8 1), .lit (.int .u8 28), .lit (.int .u8 2), .lit (.int .u8 29), .lit (.int .u8 14), .lit (.int .u8 24), .lit (.int .u8 3), .lit (.int .u8 30), .lit (.int .u8 22), .lit (.int .u8 20), .lit (.int .u8 15), .lit (.int .u8 25), .lit (.int .u8 17), .lit (.int .u8 4), .lit (.int .u8 8), .lit (.int .u8 31), .lit (.int .u8 27), .lit (.int .u8 13), .lit (.int .u8 23), .lit (.int .u8 21), .lit (.int .u8 19), .lit (.int .u8 16), .lit (.int .u8 7), .lit (.int .u8 26), .lit (.int .u8 12), .lit (.int .u8 18), .lit (.int .u8 6), .lit (.int .u8 11), .lit (.int .u8 5), .lit (.int .u8 10), .lit (.int .u8 9)]
def laid_math_bits_deBruijn64tab {H : Type} : DataW H := .agg [.lit (.int .u8 0), .lit (.int .u8 1), .lit (.int .u8 56), .lit (.int .u8 2), .lit (.int .u8 57), .lit (.int .u8 49), .lit (.int .u8 28), .lit (.int .u8 3), .lit (.int .u8 61), .lit (.int .u8 58), .lit (.int .u8 42), .lit (.int .u8 50), .lit (.int .u8 38), .lit (.int .u8 29), .lit (.int .u8 17), .lit (.int .u8 4), .lit (.int .u8 62), .lit (.int .u8 47), .lit (.int .u8 59), .lit (.int .u8 36), .lit (.int .u8 45), .lit (.int .u8 43), .lit (.int .u8 51), .lit (.int .u8 22), .lit (.int .u8 53), .lit (.int .u8 39), .lit (.int .u8 33), .lit (.int .u8 30), .lit (.int .u8 24), .lit (.int .u8 18), .lit (.int .u8 12), .lit (.int .u8 5), .lit (.int .u8 63), .lit (.int .u8 55), .lit (.int .u8 48), .lit (.int .u8 27), .lit (.int .u8 60), .lit (.int .u8 41), .lit (.int .u8 37), .lit (.int .u8 16), .lit (.int .u8 46), .lit (.int .u8 35), .lit (.int .u8 44), .lit (.int .u8 21), .lit (.int .u8 52), .lit (.int .u8 32), .lit (.int .u8 23), .lit (.int .u8 11), .lit (.int .u8 54), .lit (.int .u8 26), .lit (.int .u8 40), .lit (.int .u8 15), .lit (.int .u8 34), .lit (.int .u8 20), .lit (.int .u8 31), .lit (.int .u8 10), .lit (.int .u8 25), .lit (.int .u8 14), .lit (.int .u8 19), .lit (.int .u8 9), .lit (.int .u8 13), .lit (.int .u8 8), .lit (.int .u8 7), .lit (.int .u8 6)]
def laid_internal_strconv_uint64pow10 {H : Type} : DataW H := .agg [.lit (.int .u64 1), .lit (.int .u64 10), .lit (.int .u64 100), .lit (.int .u64 1000), .lit (.int .u64 10000), .lit (.int .u64 100000), .lit (.int .u64 1000000), .lit (.int .u64 10000000), .lit (.int .u64 100000000), .lit (.int .u64 1000000000), .lit (.int .u64 10000000000), .lit (.int .u64 100000000000), .lit (.int .u64 1000000000000), .lit (.int .u64 10000000000000), .lit (.int .u64 100000000000000), .lit (.int .u64 1000000000000000), .lit (.int .u64 10000000000000000), .lit (.int .u64 100000000000000000), .lit (.int .u64 1000000000000000000), .lit (.int .u64 10000000000000000000)]
def laid_strconv_ErrRange {H : Type} : DataW H := .iface "*errors.errorString" (.ptr (.agg [.lit (.string [118, 97, 108, 117, 101, 32, 111, 117, 116, 32, 111, 102, 32, 114, 97, 110, 103, 101])]))
def laid_strconv_ErrSyntax {H : Type} : DataW H := .iface "*errors.errorString" (.ptr (.agg [.lit (.string [105, 110, 118, 97, 108, 105, 100, 32, 115, 121, 110, 116, 97, 120])]))

/-- 'luminairelaw17.CuelistRenumbers': WHATEVER THE INPUT: true; the input reads as it did. -/
def cuelistRenumbersSpec : ChangeSpec := { name := "cuelistRenumbers", fn := fun _ => fun
  | [d1, d2, d3] => { results := [.lit (.bool true)], args := [d1, d2, d3] }
  | _ => none }
def cuelistRenumbersRow : OpenClaim := { program := "ytieoaedbfdmocaagreatdoor", sum := "4236a657c3aba05259ea0680ed835abe2a5898d560c659be4ce897ed4ba78fdf", func := "luminaire/luminairelaw17.CuelistRenumbers", spec := "cuelistRenumbers", inPlace := ["internal/bytealg.IndexByteString", "internal/bytealg.IndexString"], unfollowed := true, recurses := true, named := ["internal/bytealg.MaxLen", "strconv.ErrSyntax", "strconv.ErrRange", "internal/strconv.uint64pow10", "math/bits.deBruijn32tab", "math/bits.deBruijn64tab"], plainKeys := false, apart := false, laid := [("math/bits.deBruijn32tab", laid_math_bits_deBruijn32tab), ("math/bits.deBruijn64tab", laid_math_bits_deBruijn64tab), ("internal/strconv.uint64pow10", laid_internal_strconv_uint64pow10), ("strconv.ErrRange", laid_strconv_ErrRange), ("strconv.ErrSyntax", laid_strconv_ErrSyntax)] }
def CuelistRenumbersSaid : Prop := cuelistRenumbersRow.holds Tryz.pinned (OpenSpec.ofChange cuelistRenumbersSpec)

/-- ITS FALSE NEIGHBOUR: 'it returns false'. Refute it at one input. -/
def cuelistRenumbersWrong : ChangeSpec := { name := "cuelistRenumbers", fn := fun _ => fun
  | [d1, d2, d3] => { results := [.lit (.bool false)], args := [d1, d2, d3] }
  | _ => none }
def CuelistRenumbersWrongFalsely : Prop := cuelistRenumbersRow.holds Tryz.pinned (OpenSpec.ofChange cuelistRenumbersWrong)

/-- 'luminairelaw17.CuelistReturns': WHATEVER THE INPUT: true; the input reads as it did. -/
def cuelistReturnsSpec : ChangeSpec := { name := "cuelistReturns", fn := fun _ => fun
  | [d1, d2, d3] => { results := [.lit (.bool true)], args := [d1, d2, d3] }
  | _ => none }
def cuelistReturnsRow : OpenClaim := { program := "ytieoaedbfdmocaagreatdoor", sum := "4236a657c3aba05259ea0680ed835abe2a5898d560c659be4ce897ed4ba78fdf", func := "luminaire/luminairelaw17.CuelistReturns", spec := "cuelistReturns", inPlace := ["internal/bytealg.IndexByteString", "internal/bytealg.IndexString"], unfollowed := true, recurses := true, named := ["internal/bytealg.MaxLen", "strconv.ErrSyntax", "strconv.ErrRange", "internal/strconv.uint64pow10", "math/bits.deBruijn32tab", "math/bits.deBruijn64tab"], plainKeys := false, apart := false, laid := [("math/bits.deBruijn32tab", laid_math_bits_deBruijn32tab), ("math/bits.deBruijn64tab", laid_math_bits_deBruijn64tab), ("internal/strconv.uint64pow10", laid_internal_strconv_uint64pow10), ("strconv.ErrRange", laid_strconv_ErrRange), ("strconv.ErrSyntax", laid_strconv_ErrSyntax)] }
def CuelistReturnsSaid : Prop := cuelistReturnsRow.holds Tryz.pinned (OpenSpec.ofChange cuelistReturnsSpec)

/-- ITS FALSE NEIGHBOUR: 'it returns false'. Refute it at one input. -/
def cuelistReturnsWrong : ChangeSpec := { name := "cuelistReturns", fn := fun _ => fun
  | [d1, d2, d3] => { results := [.lit (.bool false)], args := [d1, d2, d3] }
  | _ => none }
def CuelistReturnsWrongFalsely : Prop := cuelistReturnsRow.holds Tryz.pinned (OpenSpec.ofChange cuelistReturnsWrong)

/-- 'luminairelaw17.CuelistFinds': WHATEVER THE INPUT: true; the input reads as it did. -/
def cuelistFindsSpec : ChangeSpec := { name := "cuelistFinds", fn := fun _ => fun
  | [d1, d2, d3] => { results := [.lit (.bool true)], args := [d1, d2, d3] }
  | _ => none }
def cuelistFindsRow : OpenClaim := { program := "ytieoaedbfdmocaagreatdoor", sum := "4236a657c3aba05259ea0680ed835abe2a5898d560c659be4ce897ed4ba78fdf", func := "luminaire/luminairelaw17.CuelistFinds", spec := "cuelistFinds", inPlace := ["internal/bytealg.IndexByteString", "internal/bytealg.IndexString"], unfollowed := true, recurses := true, named := ["internal/bytealg.MaxLen", "strconv.ErrSyntax", "strconv.ErrRange", "internal/strconv.uint64pow10", "math/bits.deBruijn32tab", "math/bits.deBruijn64tab"], plainKeys := false, apart := false, laid := [("math/bits.deBruijn32tab", laid_math_bits_deBruijn32tab), ("math/bits.deBruijn64tab", laid_math_bits_deBruijn64tab), ("internal/strconv.uint64pow10", laid_internal_strconv_uint64pow10), ("strconv.ErrRange", laid_strconv_ErrRange), ("strconv.ErrSyntax", laid_strconv_ErrSyntax)] }
def CuelistFindsSaid : Prop := cuelistFindsRow.holds Tryz.pinned (OpenSpec.ofChange cuelistFindsSpec)

/-- ITS FALSE NEIGHBOUR: 'it returns false'. Refute it at one input. -/
def cuelistFindsWrong : ChangeSpec := { name := "cuelistFinds", fn := fun _ => fun
  | [d1, d2, d3] => { results := [.lit (.bool false)], args := [d1, d2, d3] }
  | _ => none }
def CuelistFindsWrongFalsely : Prop := cuelistFindsRow.holds Tryz.pinned (OpenSpec.ofChange cuelistFindsWrong)

/-- 'luminairelaw17.CuelistWalks': WHATEVER THE INPUT: true; the input reads as it did. -/
def cuelistWalksSpec : ChangeSpec := { name := "cuelistWalks", fn := fun _ => fun
  | [d] => { results := [.lit (.bool true)], args := [d] }
  | _ => none }
def cuelistWalksRow : OpenClaim := { program := "ytieoaedbfdmocaagreatdoor", sum := "4236a657c3aba05259ea0680ed835abe2a5898d560c659be4ce897ed4ba78fdf", func := "luminaire/luminairelaw17.CuelistWalks", spec := "cuelistWalks", inPlace := ["internal/bytealg.IndexByteString", "internal/bytealg.IndexString"], unfollowed := true, recurses := true, named := ["internal/bytealg.MaxLen", "strconv.ErrSyntax", "strconv.ErrRange", "internal/strconv.uint64pow10", "math/bits.deBruijn32tab", "math/bits.deBruijn64tab"], plainKeys := false, apart := false, laid := [("math/bits.deBruijn32tab", laid_math_bits_deBruijn32tab), ("math/bits.deBruijn64tab", laid_math_bits_deBruijn64tab), ("internal/strconv.uint64pow10", laid_internal_strconv_uint64pow10), ("strconv.ErrRange", laid_strconv_ErrRange), ("strconv.ErrSyntax", laid_strconv_ErrSyntax)] }
def CuelistWalksSaid : Prop := cuelistWalksRow.holds Tryz.pinned (OpenSpec.ofChange cuelistWalksSpec)

/-- ITS FALSE NEIGHBOUR: 'it returns false'. Refute it at one input. -/
def cuelistWalksWrong : ChangeSpec := { name := "cuelistWalks", fn := fun _ => fun
  | [d] => { results := [.lit (.bool false)], args := [d] }
  | _ => none }
def CuelistWalksWrongFalsely : Prop := cuelistWalksRow.holds Tryz.pinned (OpenSpec.ofChange cuelistWalksWrong)

/-- 'luminairelaw17.CuelistChecks': WHATEVER THE INPUT: true; the input reads as it did. -/
def cuelistChecksSpec : ChangeSpec := { name := "cuelistChecks", fn := fun _ => fun
  | [d1, d2] => { results := [.lit (.bool true)], args := [d1, d2] }
  | _ => none }
def cuelistChecksRow : OpenClaim := { program := "ytieoaedbfdmocaagreatdoor", sum := "4236a657c3aba05259ea0680ed835abe2a5898d560c659be4ce897ed4ba78fdf", func := "luminaire/luminairelaw17.CuelistChecks", spec := "cuelistChecks", inPlace := ["internal/bytealg.IndexByteString", "internal/bytealg.IndexString"], unfollowed := true, recurses := true, named := ["internal/bytealg.MaxLen", "strconv.ErrSyntax", "strconv.ErrRange", "internal/strconv.uint64pow10", "math/bits.deBruijn32tab", "math/bits.deBruijn64tab"], plainKeys := false, apart := false, laid := [("math/bits.deBruijn32tab", laid_math_bits_deBruijn32tab), ("math/bits.deBruijn64tab", laid_math_bits_deBruijn64tab), ("internal/strconv.uint64pow10", laid_internal_strconv_uint64pow10), ("strconv.ErrRange", laid_strconv_ErrRange), ("strconv.ErrSyntax", laid_strconv_ErrSyntax)] }
def CuelistChecksSaid : Prop := cuelistChecksRow.holds Tryz.pinned (OpenSpec.ofChange cuelistChecksSpec)

/-- ITS FALSE NEIGHBOUR: 'it returns false'. Refute it at one input. -/
def cuelistChecksWrong : ChangeSpec := { name := "cuelistChecks", fn := fun _ => fun
  | [d1, d2] => { results := [.lit (.bool false)], args := [d1, d2] }
  | _ => none }
def CuelistChecksWrongFalsely : Prop := cuelistChecksRow.holds Tryz.pinned (OpenSpec.ofChange cuelistChecksWrong)

/-- 'luminairelaw18.TrackingOrigins': WHATEVER THE INPUT: true; the input reads as it did. -/
def trackingOriginsSpec : ChangeSpec := { name := "trackingOrigins", fn := fun _ => fun
  | [d1, d2, d3] => { results := [.lit (.bool true)], args := [d1, d2, d3] }
  | _ => none }
def trackingOriginsRow : OpenClaim := { program := "ytieoaedbfdmocaagreatdoor", sum := "4236a657c3aba05259ea0680ed835abe2a5898d560c659be4ce897ed4ba78fdf", func := "luminaire/luminairelaw18.TrackingOrigins", spec := "trackingOrigins", inPlace := ["internal/bytealg.IndexByteString", "internal/bytealg.IndexString"], unfollowed := true, recurses := true, named := ["internal/bytealg.MaxLen", "strconv.ErrSyntax", "strconv.ErrRange", "internal/strconv.uint64pow10", "math/bits.deBruijn32tab", "math/bits.deBruijn64tab"], plainKeys := false, apart := false, laid := [("math/bits.deBruijn32tab", laid_math_bits_deBruijn32tab), ("math/bits.deBruijn64tab", laid_math_bits_deBruijn64tab), ("internal/strconv.uint64pow10", laid_internal_strconv_uint64pow10), ("strconv.ErrRange", laid_strconv_ErrRange), ("strconv.ErrSyntax", laid_strconv_ErrSyntax)] }
def TrackingOriginsSaid : Prop := trackingOriginsRow.holds Tryz.pinned (OpenSpec.ofChange trackingOriginsSpec)

/-- ITS FALSE NEIGHBOUR: 'it returns false'. Refute it at one input. -/
def trackingOriginsWrong : ChangeSpec := { name := "trackingOrigins", fn := fun _ => fun
  | [d1, d2, d3] => { results := [.lit (.bool false)], args := [d1, d2, d3] }
  | _ => none }
def TrackingOriginsWrongFalsely : Prop := trackingOriginsRow.holds Tryz.pinned (OpenSpec.ofChange trackingOriginsWrong)

/-- 'luminairelaw18.TrackingChanges': WHATEVER THE INPUT: true; the input reads as it did. -/
def trackingChangesSpec : ChangeSpec := { name := "trackingChanges", fn := fun _ => fun
  | [d1, d2, d3] => { results := [.lit (.bool true)], args := [d1, d2, d3] }
  | _ => none }
def trackingChangesRow : OpenClaim := { program := "ytieoaedbfdmocaagreatdoor", sum := "4236a657c3aba05259ea0680ed835abe2a5898d560c659be4ce897ed4ba78fdf", func := "luminaire/luminairelaw18.TrackingChanges", spec := "trackingChanges", inPlace := ["internal/bytealg.IndexByteString", "internal/bytealg.IndexString"], unfollowed := true, recurses := true, named := ["internal/bytealg.MaxLen", "strconv.ErrSyntax", "strconv.ErrRange", "internal/strconv.uint64pow10", "math/bits.deBruijn32tab", "math/bits.deBruijn64tab"], plainKeys := false, apart := false, laid := [("math/bits.deBruijn32tab", laid_math_bits_deBruijn32tab), ("math/bits.deBruijn64tab", laid_math_bits_deBruijn64tab), ("internal/strconv.uint64pow10", laid_internal_strconv_uint64pow10), ("strconv.ErrRange", laid_strconv_ErrRange), ("strconv.ErrSyntax", laid_strconv_ErrSyntax)] }
def TrackingChangesSaid : Prop := trackingChangesRow.holds Tryz.pinned (OpenSpec.ofChange trackingChangesSpec)

/-- ITS FALSE NEIGHBOUR: 'it returns false'. Refute it at one input. -/
def trackingChangesWrong : ChangeSpec := { name := "trackingChanges", fn := fun _ => fun
  | [d1, d2, d3] => { results := [.lit (.bool false)], args := [d1, d2, d3] }
  | _ => none }
def TrackingChangesWrongFalsely : Prop := trackingChangesRow.holds Tryz.pinned (OpenSpec.ofChange trackingChangesWrong)

/-- 'luminairelaw18.TrackingLooks': WHATEVER THE INPUT: true; the input reads as it did. -/
def trackingLooksSpec : ChangeSpec := { name := "trackingLooks", fn := fun _ => fun
  | [d1, d2] => { results := [.lit (.bool true)], args := [d1, d2] }
  | _ => none }
def trackingLooksRow : OpenClaim := { program := "ytieoaedbfdmocaagreatdoor", sum := "4236a657c3aba05259ea0680ed835abe2a5898d560c659be4ce897ed4ba78fdf", func := "luminaire/luminairelaw18.TrackingLooks", spec := "trackingLooks", inPlace := ["internal/bytealg.IndexByteString", "internal/bytealg.IndexString"], unfollowed := true, recurses := true, named := ["internal/bytealg.MaxLen", "strconv.ErrSyntax", "strconv.ErrRange", "internal/strconv.uint64pow10", "math/bits.deBruijn32tab", "math/bits.deBruijn64tab"], plainKeys := false, apart := false, laid := [("math/bits.deBruijn32tab", laid_math_bits_deBruijn32tab), ("math/bits.deBruijn64tab", laid_math_bits_deBruijn64tab), ("internal/strconv.uint64pow10", laid_internal_strconv_uint64pow10), ("strconv.ErrRange", laid_strconv_ErrRange), ("strconv.ErrSyntax", laid_strconv_ErrSyntax)] }
def TrackingLooksSaid : Prop := trackingLooksRow.holds Tryz.pinned (OpenSpec.ofChange trackingLooksSpec)

/-- ITS FALSE NEIGHBOUR: 'it returns false'. Refute it at one input. -/
def trackingLooksWrong : ChangeSpec := { name := "trackingLooks", fn := fun _ => fun
  | [d1, d2] => { results := [.lit (.bool false)], args := [d1, d2] }
  | _ => none }
def TrackingLooksWrongFalsely : Prop := trackingLooksRow.holds Tryz.pinned (OpenSpec.ofChange trackingLooksWrong)

/-- 'luminairelaw17.CuelistPuts': WHATEVER THE INPUT: true; the input reads as it did. -/
def cuelistPutsSpec : ChangeSpec := { name := "cuelistPuts", fn := fun _ => fun
  | [d1, d2, d3] => { results := [.lit (.bool true)], args := [d1, d2, d3] }
  | _ => none }
def cuelistPutsRow : OpenClaim := { program := "ytieoaedbfdmocaagreatdoor", sum := "4236a657c3aba05259ea0680ed835abe2a5898d560c659be4ce897ed4ba78fdf", func := "luminaire/luminairelaw17.CuelistPuts", spec := "cuelistPuts", inPlace := ["internal/bytealg.IndexByteString", "internal/bytealg.IndexString"], unfollowed := true, recurses := true, named := ["internal/bytealg.MaxLen", "strconv.ErrSyntax", "strconv.ErrRange", "internal/strconv.uint64pow10", "math/bits.deBruijn32tab", "math/bits.deBruijn64tab"], plainKeys := false, apart := false, laid := [("math/bits.deBruijn32tab", laid_math_bits_deBruijn32tab), ("math/bits.deBruijn64tab", laid_math_bits_deBruijn64tab), ("internal/strconv.uint64pow10", laid_internal_strconv_uint64pow10), ("strconv.ErrRange", laid_strconv_ErrRange), ("strconv.ErrSyntax", laid_strconv_ErrSyntax)] }
def CuelistPutsSaid : Prop := cuelistPutsRow.holds Tryz.pinned (OpenSpec.ofChange cuelistPutsSpec)

/-- ITS FALSE NEIGHBOUR: 'it returns false'. Refute it at one input. -/
def cuelistPutsWrong : ChangeSpec := { name := "cuelistPuts", fn := fun _ => fun
  | [d1, d2, d3] => { results := [.lit (.bool false)], args := [d1, d2, d3] }
  | _ => none }
def CuelistPutsWrongFalsely : Prop := cuelistPutsRow.holds Tryz.pinned (OpenSpec.ofChange cuelistPutsWrong)

/-- 'luminairelaw17.CuelistHolds': WHATEVER THE INPUT: true; the input reads as it did. -/
def cuelistHoldsSpec : ChangeSpec := { name := "cuelistHolds", fn := fun _ => fun
  | [d1, d2] => { results := [.lit (.bool true)], args := [d1, d2] }
  | _ => none }
def cuelistHoldsRow : OpenClaim := { program := "ytieoaedbfdmocaagreatdoor", sum := "4236a657c3aba05259ea0680ed835abe2a5898d560c659be4ce897ed4ba78fdf", func := "luminaire/luminairelaw17.CuelistHolds", spec := "cuelistHolds", inPlace := ["internal/bytealg.IndexByteString", "internal/bytealg.IndexString"], unfollowed := true, recurses := true, named := ["internal/bytealg.MaxLen", "strconv.ErrSyntax", "strconv.ErrRange", "internal/strconv.uint64pow10", "math/bits.deBruijn32tab", "math/bits.deBruijn64tab"], plainKeys := false, apart := false, laid := [("math/bits.deBruijn32tab", laid_math_bits_deBruijn32tab), ("math/bits.deBruijn64tab", laid_math_bits_deBruijn64tab), ("internal/strconv.uint64pow10", laid_internal_strconv_uint64pow10), ("strconv.ErrRange", laid_strconv_ErrRange), ("strconv.ErrSyntax", laid_strconv_ErrSyntax)] }
def CuelistHoldsSaid : Prop := cuelistHoldsRow.holds Tryz.pinned (OpenSpec.ofChange cuelistHoldsSpec)

/-- ITS FALSE NEIGHBOUR: 'it returns false'. Refute it at one input. -/
def cuelistHoldsWrong : ChangeSpec := { name := "cuelistHolds", fn := fun _ => fun
  | [d1, d2] => { results := [.lit (.bool false)], args := [d1, d2] }
  | _ => none }
def CuelistHoldsWrongFalsely : Prop := cuelistHoldsRow.holds Tryz.pinned (OpenSpec.ofChange cuelistHoldsWrong)

/-- 'luminairelaw18.TrackingRuns': WHATEVER THE INPUT: true; the input reads as it did. -/
def trackingRunsSpec : ChangeSpec := { name := "trackingRuns", fn := fun _ => fun
  | [d] => { results := [.lit (.bool true)], args := [d] }
  | _ => none }
def trackingRunsRow : OpenClaim := { program := "ytieoaedbfdmocaagreatdoor", sum := "4236a657c3aba05259ea0680ed835abe2a5898d560c659be4ce897ed4ba78fdf", func := "luminaire/luminairelaw18.TrackingRuns", spec := "trackingRuns", inPlace := ["internal/bytealg.IndexByteString", "internal/bytealg.IndexString"], unfollowed := true, recurses := true, named := ["internal/bytealg.MaxLen", "strconv.ErrSyntax", "strconv.ErrRange", "internal/strconv.uint64pow10", "math/bits.deBruijn32tab", "math/bits.deBruijn64tab"], plainKeys := false, apart := false, laid := [("math/bits.deBruijn32tab", laid_math_bits_deBruijn32tab), ("math/bits.deBruijn64tab", laid_math_bits_deBruijn64tab), ("internal/strconv.uint64pow10", laid_internal_strconv_uint64pow10), ("strconv.ErrRange", laid_strconv_ErrRange), ("strconv.ErrSyntax", laid_strconv_ErrSyntax)] }
def TrackingRunsSaid : Prop := trackingRunsRow.holds Tryz.pinned (OpenSpec.ofChange trackingRunsSpec)

/-- ITS FALSE NEIGHBOUR: 'it returns false'. Refute it at one input. -/
def trackingRunsWrong : ChangeSpec := { name := "trackingRuns", fn := fun _ => fun
  | [d] => { results := [.lit (.bool false)], args := [d] }
  | _ => none }
def TrackingRunsWrongFalsely : Prop := trackingRunsRow.holds Tryz.pinned (OpenSpec.ofChange trackingRunsWrong)

/-- 'luminairelaw18.TrackingSteps': WHATEVER THE INPUT: true; the input reads as it did. -/
def trackingStepsSpec : ChangeSpec := { name := "trackingSteps", fn := fun _ => fun
  | [d] => { results := [.lit (.bool true)], args := [d] }
  | _ => none }
def trackingStepsRow : OpenClaim := { program := "ytieoaedbfdmocaagreatdoor", sum := "4236a657c3aba05259ea0680ed835abe2a5898d560c659be4ce897ed4ba78fdf", func := "luminaire/luminairelaw18.TrackingSteps", spec := "trackingSteps", inPlace := ["internal/bytealg.IndexByteString", "internal/bytealg.IndexString"], unfollowed := true, recurses := true, named := ["internal/bytealg.MaxLen", "strconv.ErrSyntax", "strconv.ErrRange", "internal/strconv.uint64pow10", "math/bits.deBruijn32tab", "math/bits.deBruijn64tab"], plainKeys := false, apart := false, laid := [("math/bits.deBruijn32tab", laid_math_bits_deBruijn32tab), ("math/bits.deBruijn64tab", laid_math_bits_deBruijn64tab), ("internal/strconv.uint64pow10", laid_internal_strconv_uint64pow10), ("strconv.ErrRange", laid_strconv_ErrRange), ("strconv.ErrSyntax", laid_strconv_ErrSyntax)] }
def TrackingStepsSaid : Prop := trackingStepsRow.holds Tryz.pinned (OpenSpec.ofChange trackingStepsSpec)

/-- ITS FALSE NEIGHBOUR: 'it returns false'. Refute it at one input. -/
def trackingStepsWrong : ChangeSpec := { name := "trackingSteps", fn := fun _ => fun
  | [d] => { results := [.lit (.bool false)], args := [d] }
  | _ => none }
def TrackingStepsWrongFalsely : Prop := trackingStepsRow.holds Tryz.pinned (OpenSpec.ofChange trackingStepsWrong)

/-- 'luminairelaw18.TrackingStarts': WHATEVER THE INPUT: true; the input reads as it did. -/
def trackingStartsSpec : ChangeSpec := { name := "trackingStarts", fn := fun _ => fun
  | [d1, d2] => { results := [.lit (.bool true)], args := [d1, d2] }
  | _ => none }
def trackingStartsRow : OpenClaim := { program := "ytieoaedbfdmocaagreatdoor", sum := "4236a657c3aba05259ea0680ed835abe2a5898d560c659be4ce897ed4ba78fdf", func := "luminaire/luminairelaw18.TrackingStarts", spec := "trackingStarts", inPlace := ["internal/bytealg.IndexByteString", "internal/bytealg.IndexString"], unfollowed := true, recurses := true, named := ["internal/bytealg.MaxLen", "strconv.ErrSyntax", "strconv.ErrRange", "internal/strconv.uint64pow10", "math/bits.deBruijn32tab", "math/bits.deBruijn64tab"], plainKeys := false, apart := false, laid := [("math/bits.deBruijn32tab", laid_math_bits_deBruijn32tab), ("math/bits.deBruijn64tab", laid_math_bits_deBruijn64tab), ("internal/strconv.uint64pow10", laid_internal_strconv_uint64pow10), ("strconv.ErrRange", laid_strconv_ErrRange), ("strconv.ErrSyntax", laid_strconv_ErrSyntax)] }
def TrackingStartsSaid : Prop := trackingStartsRow.holds Tryz.pinned (OpenSpec.ofChange trackingStartsSpec)

/-- ITS FALSE NEIGHBOUR: 'it returns false'. Refute it at one input. -/
def trackingStartsWrong : ChangeSpec := { name := "trackingStarts", fn := fun _ => fun
  | [d1, d2] => { results := [.lit (.bool false)], args := [d1, d2] }
  | _ => none }
def TrackingStartsWrongFalsely : Prop := trackingStartsRow.holds Tryz.pinned (OpenSpec.ofChange trackingStartsWrong)

/-- 'luminairelaw18.TrackingTrims': WHATEVER THE INPUT: true; the input reads as it did. -/
def trackingTrimsSpec : ChangeSpec := { name := "trackingTrims", fn := fun _ => fun
  | [d1, d2] => { results := [.lit (.bool true)], args := [d1, d2] }
  | _ => none }
def trackingTrimsRow : OpenClaim := { program := "ytieoaedbfdmocaagreatdoor", sum := "4236a657c3aba05259ea0680ed835abe2a5898d560c659be4ce897ed4ba78fdf", func := "luminaire/luminairelaw18.TrackingTrims", spec := "trackingTrims", inPlace := ["internal/bytealg.IndexByteString", "internal/bytealg.IndexString"], unfollowed := true, recurses := true, named := ["internal/bytealg.MaxLen", "strconv.ErrSyntax", "strconv.ErrRange", "internal/strconv.uint64pow10", "math/bits.deBruijn32tab", "math/bits.deBruijn64tab"], plainKeys := false, apart := false, laid := [("math/bits.deBruijn32tab", laid_math_bits_deBruijn32tab), ("math/bits.deBruijn64tab", laid_math_bits_deBruijn64tab), ("internal/strconv.uint64pow10", laid_internal_strconv_uint64pow10), ("strconv.ErrRange", laid_strconv_ErrRange), ("strconv.ErrSyntax", laid_strconv_ErrSyntax)] }
def TrackingTrimsSaid : Prop := trackingTrimsRow.holds Tryz.pinned (OpenSpec.ofChange trackingTrimsSpec)

/-- ITS FALSE NEIGHBOUR: 'it returns false'. Refute it at one input. -/
def trackingTrimsWrong : ChangeSpec := { name := "trackingTrims", fn := fun _ => fun
  | [d1, d2] => { results := [.lit (.bool false)], args := [d1, d2] }
  | _ => none }
def TrackingTrimsWrongFalsely : Prop := trackingTrimsRow.holds Tryz.pinned (OpenSpec.ofChange trackingTrimsWrong)

/- THE SECOND FORM. 'bulk': how many values and letters a reading holds, each counted each time it is reached (what is shared counts as often as it is met; a slice's spare places count too). A statement '..UptoSaid' is the law's where the arguments, and the package variables that the reading takes, are together of bulk at most 1048576: NARROWER than '..Said'. Prove '..Said' where nothing that the law and all that it calls make is longer than what came in: it says more and counts as full. Else prove '..UptoSaid'. A law counts once. -/
mutual
def uptoBulk {H : Type} : DataW H → Nat
  | .lit (.string bytes) => bytes.length + 1
  | .lit _ => 1
  | .nil => 1
  | .ptr d => uptoBulk d + 1
  | .slice elems spare => uptoBulkAll elems + uptoBulkAll spare + 1
  | .agg parts => uptoBulkAll parts + 1
  | .iface _ d => uptoBulk d + 1
  | .map entries => uptoBulkEntries entries + 1
  | .held _ => 1
def uptoBulkAll {H : Type} : List (DataW H) → Nat
  | [] => 0
  | d :: r => uptoBulk d + uptoBulkAll r
def uptoBulkEntries {H : Type} : List (Lit × DataW H) → Nat
  | [] => 0
  | x :: r => uptoBulkEntry x + uptoBulkEntries r
def uptoBulkEntry {H : Type} : Lit × DataW H → Nat
  | (.string bytes, d) => bytes.length + uptoBulk d + 1
  | (_, d) => uptoBulk d + 1
 end
def uptoSmall : (H : Type) → List (DataW H) → Bool := fun _ ds => decide (uptoBulkAll ds ≤ 1048576)
def OpenSpec.upto (s : _root_.Go.ChangeSpec) : _root_.Go.OpenSpec := { _root_.Go.OpenSpec.ofChange s with cond := some uptoSmall }

/-- 'luminairelaw17.CuelistRenumbers', WHERE WHAT IT READS IS OF BULK AT MOST 1048576: true; the input reads as it did. -/
def cuelistRenumbersUptoRow : OpenClaim := { program := "ytieoaedbfdmocaagreatdoor", sum := "4236a657c3aba05259ea0680ed835abe2a5898d560c659be4ce897ed4ba78fdf", func := "luminaire/luminairelaw17.CuelistRenumbers", spec := "cuelistRenumbers", inPlace := ["internal/bytealg.IndexByteString", "internal/bytealg.IndexString"], unfollowed := true, recurses := true, named := ["internal/bytealg.MaxLen", "strconv.ErrSyntax", "strconv.ErrRange", "internal/strconv.uint64pow10", "math/bits.deBruijn32tab", "math/bits.deBruijn64tab"], plainKeys := false, apart := false, laid := [("math/bits.deBruijn32tab", laid_math_bits_deBruijn32tab), ("math/bits.deBruijn64tab", laid_math_bits_deBruijn64tab), ("internal/strconv.uint64pow10", laid_internal_strconv_uint64pow10), ("strconv.ErrRange", laid_strconv_ErrRange), ("strconv.ErrSyntax", laid_strconv_ErrSyntax)], narrowed := true }
def CuelistRenumbersUptoSaid : Prop := cuelistRenumbersUptoRow.holds Tryz.pinned (OpenSpec.upto cuelistRenumbersSpec)

/-- 'luminairelaw17.CuelistReturns', WHERE WHAT IT READS IS OF BULK AT MOST 1048576: true; the input reads as it did. -/
def cuelistReturnsUptoRow : OpenClaim := { program := "ytieoaedbfdmocaagreatdoor", sum := "4236a657c3aba05259ea0680ed835abe2a5898d560c659be4ce897ed4ba78fdf", func := "luminaire/luminairelaw17.CuelistReturns", spec := "cuelistReturns", inPlace := ["internal/bytealg.IndexByteString", "internal/bytealg.IndexString"], unfollowed := true, recurses := true, named := ["internal/bytealg.MaxLen", "strconv.ErrSyntax", "strconv.ErrRange", "internal/strconv.uint64pow10", "math/bits.deBruijn32tab", "math/bits.deBruijn64tab"], plainKeys := false, apart := false, laid := [("math/bits.deBruijn32tab", laid_math_bits_deBruijn32tab), ("math/bits.deBruijn64tab", laid_math_bits_deBruijn64tab), ("internal/strconv.uint64pow10", laid_internal_strconv_uint64pow10), ("strconv.ErrRange", laid_strconv_ErrRange), ("strconv.ErrSyntax", laid_strconv_ErrSyntax)], narrowed := true }
def CuelistReturnsUptoSaid : Prop := cuelistReturnsUptoRow.holds Tryz.pinned (OpenSpec.upto cuelistReturnsSpec)

/-- 'luminairelaw17.CuelistFinds', WHERE WHAT IT READS IS OF BULK AT MOST 1048576: true; the input reads as it did. -/
def cuelistFindsUptoRow : OpenClaim := { program := "ytieoaedbfdmocaagreatdoor", sum := "4236a657c3aba05259ea0680ed835abe2a5898d560c659be4ce897ed4ba78fdf", func := "luminaire/luminairelaw17.CuelistFinds", spec := "cuelistFinds", inPlace := ["internal/bytealg.IndexByteString", "internal/bytealg.IndexString"], unfollowed := true, recurses := true, named := ["internal/bytealg.MaxLen", "strconv.ErrSyntax", "strconv.ErrRange", "internal/strconv.uint64pow10", "math/bits.deBruijn32tab", "math/bits.deBruijn64tab"], plainKeys := false, apart := false, laid := [("math/bits.deBruijn32tab", laid_math_bits_deBruijn32tab), ("math/bits.deBruijn64tab", laid_math_bits_deBruijn64tab), ("internal/strconv.uint64pow10", laid_internal_strconv_uint64pow10), ("strconv.ErrRange", laid_strconv_ErrRange), ("strconv.ErrSyntax", laid_strconv_ErrSyntax)], narrowed := true }
def CuelistFindsUptoSaid : Prop := cuelistFindsUptoRow.holds Tryz.pinned (OpenSpec.upto cuelistFindsSpec)

/-- 'luminairelaw17.CuelistWalks', WHERE WHAT IT READS IS OF BULK AT MOST 1048576: true; the input reads as it did. -/
def cuelistWalksUptoRow : OpenClaim := { program := "ytieoaedbfdmocaagreatdoor", sum := "4236a657c3aba05259ea0680ed835abe2a5898d560c659be4ce897ed4ba78fdf", func := "luminaire/luminairelaw17.CuelistWalks", spec := "cuelistWalks", inPlace := ["internal/bytealg.IndexByteString", "internal/bytealg.IndexString"], unfollowed := true, recurses := true, named := ["internal/bytealg.MaxLen", "strconv.ErrSyntax", "strconv.ErrRange", "internal/strconv.uint64pow10", "math/bits.deBruijn32tab", "math/bits.deBruijn64tab"], plainKeys := false, apart := false, laid := [("math/bits.deBruijn32tab", laid_math_bits_deBruijn32tab), ("math/bits.deBruijn64tab", laid_math_bits_deBruijn64tab), ("internal/strconv.uint64pow10", laid_internal_strconv_uint64pow10), ("strconv.ErrRange", laid_strconv_ErrRange), ("strconv.ErrSyntax", laid_strconv_ErrSyntax)], narrowed := true }
def CuelistWalksUptoSaid : Prop := cuelistWalksUptoRow.holds Tryz.pinned (OpenSpec.upto cuelistWalksSpec)

/-- 'luminairelaw17.CuelistChecks', WHERE WHAT IT READS IS OF BULK AT MOST 1048576: true; the input reads as it did. -/
def cuelistChecksUptoRow : OpenClaim := { program := "ytieoaedbfdmocaagreatdoor", sum := "4236a657c3aba05259ea0680ed835abe2a5898d560c659be4ce897ed4ba78fdf", func := "luminaire/luminairelaw17.CuelistChecks", spec := "cuelistChecks", inPlace := ["internal/bytealg.IndexByteString", "internal/bytealg.IndexString"], unfollowed := true, recurses := true, named := ["internal/bytealg.MaxLen", "strconv.ErrSyntax", "strconv.ErrRange", "internal/strconv.uint64pow10", "math/bits.deBruijn32tab", "math/bits.deBruijn64tab"], plainKeys := false, apart := false, laid := [("math/bits.deBruijn32tab", laid_math_bits_deBruijn32tab), ("math/bits.deBruijn64tab", laid_math_bits_deBruijn64tab), ("internal/strconv.uint64pow10", laid_internal_strconv_uint64pow10), ("strconv.ErrRange", laid_strconv_ErrRange), ("strconv.ErrSyntax", laid_strconv_ErrSyntax)], narrowed := true }
def CuelistChecksUptoSaid : Prop := cuelistChecksUptoRow.holds Tryz.pinned (OpenSpec.upto cuelistChecksSpec)

/-- 'luminairelaw18.TrackingOrigins', WHERE WHAT IT READS IS OF BULK AT MOST 1048576: true; the input reads as it did. -/
def trackingOriginsUptoRow : OpenClaim := { program := "ytieoaedbfdmocaagreatdoor", sum := "4236a657c3aba05259ea0680ed835abe2a5898d560c659be4ce897ed4ba78fdf", func := "luminaire/luminairelaw18.TrackingOrigins", spec := "trackingOrigins", inPlace := ["internal/bytealg.IndexByteString", "internal/bytealg.IndexString"], unfollowed := true, recurses := true, named := ["internal/bytealg.MaxLen", "strconv.ErrSyntax", "strconv.ErrRange", "internal/strconv.uint64pow10", "math/bits.deBruijn32tab", "math/bits.deBruijn64tab"], plainKeys := false, apart := false, laid := [("math/bits.deBruijn32tab", laid_math_bits_deBruijn32tab), ("math/bits.deBruijn64tab", laid_math_bits_deBruijn64tab), ("internal/strconv.uint64pow10", laid_internal_strconv_uint64pow10), ("strconv.ErrRange", laid_strconv_ErrRange), ("strconv.ErrSyntax", laid_strconv_ErrSyntax)], narrowed := true }
def TrackingOriginsUptoSaid : Prop := trackingOriginsUptoRow.holds Tryz.pinned (OpenSpec.upto trackingOriginsSpec)

/-- 'luminairelaw18.TrackingChanges', WHERE WHAT IT READS IS OF BULK AT MOST 1048576: true; the input reads as it did. -/
def trackingChangesUptoRow : OpenClaim := { program := "ytieoaedbfdmocaagreatdoor", sum := "4236a657c3aba05259ea0680ed835abe2a5898d560c659be4ce897ed4ba78fdf", func := "luminaire/luminairelaw18.TrackingChanges", spec := "trackingChanges", inPlace := ["internal/bytealg.IndexByteString", "internal/bytealg.IndexString"], unfollowed := true, recurses := true, named := ["internal/bytealg.MaxLen", "strconv.ErrSyntax", "strconv.ErrRange", "internal/strconv.uint64pow10", "math/bits.deBruijn32tab", "math/bits.deBruijn64tab"], plainKeys := false, apart := false, laid := [("math/bits.deBruijn32tab", laid_math_bits_deBruijn32tab), ("math/bits.deBruijn64tab", laid_math_bits_deBruijn64tab), ("internal/strconv.uint64pow10", laid_internal_strconv_uint64pow10), ("strconv.ErrRange", laid_strconv_ErrRange), ("strconv.ErrSyntax", laid_strconv_ErrSyntax)], narrowed := true }
def TrackingChangesUptoSaid : Prop := trackingChangesUptoRow.holds Tryz.pinned (OpenSpec.upto trackingChangesSpec)

/-- 'luminairelaw18.TrackingLooks', WHERE WHAT IT READS IS OF BULK AT MOST 1048576: true; the input reads as it did. -/
def trackingLooksUptoRow : OpenClaim := { program := "ytieoaedbfdmocaagreatdoor", sum := "4236a657c3aba05259ea0680ed835abe2a5898d560c659be4ce897ed4ba78fdf", func := "luminaire/luminairelaw18.TrackingLooks", spec := "trackingLooks", inPlace := ["internal/bytealg.IndexByteString", "internal/bytealg.IndexString"], unfollowed := true, recurses := true, named := ["internal/bytealg.MaxLen", "strconv.ErrSyntax", "strconv.ErrRange", "internal/strconv.uint64pow10", "math/bits.deBruijn32tab", "math/bits.deBruijn64tab"], plainKeys := false, apart := false, laid := [("math/bits.deBruijn32tab", laid_math_bits_deBruijn32tab), ("math/bits.deBruijn64tab", laid_math_bits_deBruijn64tab), ("internal/strconv.uint64pow10", laid_internal_strconv_uint64pow10), ("strconv.ErrRange", laid_strconv_ErrRange), ("strconv.ErrSyntax", laid_strconv_ErrSyntax)], narrowed := true }
def TrackingLooksUptoSaid : Prop := trackingLooksUptoRow.holds Tryz.pinned (OpenSpec.upto trackingLooksSpec)

/-- 'luminairelaw17.CuelistPuts', WHERE WHAT IT READS IS OF BULK AT MOST 1048576: true; the input reads as it did. -/
def cuelistPutsUptoRow : OpenClaim := { program := "ytieoaedbfdmocaagreatdoor", sum := "4236a657c3aba05259ea0680ed835abe2a5898d560c659be4ce897ed4ba78fdf", func := "luminaire/luminairelaw17.CuelistPuts", spec := "cuelistPuts", inPlace := ["internal/bytealg.IndexByteString", "internal/bytealg.IndexString"], unfollowed := true, recurses := true, named := ["internal/bytealg.MaxLen", "strconv.ErrSyntax", "strconv.ErrRange", "internal/strconv.uint64pow10", "math/bits.deBruijn32tab", "math/bits.deBruijn64tab"], plainKeys := false, apart := false, laid := [("math/bits.deBruijn32tab", laid_math_bits_deBruijn32tab), ("math/bits.deBruijn64tab", laid_math_bits_deBruijn64tab), ("internal/strconv.uint64pow10", laid_internal_strconv_uint64pow10), ("strconv.ErrRange", laid_strconv_ErrRange), ("strconv.ErrSyntax", laid_strconv_ErrSyntax)], narrowed := true }
def CuelistPutsUptoSaid : Prop := cuelistPutsUptoRow.holds Tryz.pinned (OpenSpec.upto cuelistPutsSpec)

/-- 'luminairelaw17.CuelistHolds', WHERE WHAT IT READS IS OF BULK AT MOST 1048576: true; the input reads as it did. -/
def cuelistHoldsUptoRow : OpenClaim := { program := "ytieoaedbfdmocaagreatdoor", sum := "4236a657c3aba05259ea0680ed835abe2a5898d560c659be4ce897ed4ba78fdf", func := "luminaire/luminairelaw17.CuelistHolds", spec := "cuelistHolds", inPlace := ["internal/bytealg.IndexByteString", "internal/bytealg.IndexString"], unfollowed := true, recurses := true, named := ["internal/bytealg.MaxLen", "strconv.ErrSyntax", "strconv.ErrRange", "internal/strconv.uint64pow10", "math/bits.deBruijn32tab", "math/bits.deBruijn64tab"], plainKeys := false, apart := false, laid := [("math/bits.deBruijn32tab", laid_math_bits_deBruijn32tab), ("math/bits.deBruijn64tab", laid_math_bits_deBruijn64tab), ("internal/strconv.uint64pow10", laid_internal_strconv_uint64pow10), ("strconv.ErrRange", laid_strconv_ErrRange), ("strconv.ErrSyntax", laid_strconv_ErrSyntax)], narrowed := true }
def CuelistHoldsUptoSaid : Prop := cuelistHoldsUptoRow.holds Tryz.pinned (OpenSpec.upto cuelistHoldsSpec)

/-- 'luminairelaw18.TrackingRuns', WHERE WHAT IT READS IS OF BULK AT MOST 1048576: true; the input reads as it did. -/
def trackingRunsUptoRow : OpenClaim := { program := "ytieoaedbfdmocaagreatdoor", sum := "4236a657c3aba05259ea0680ed835abe2a5898d560c659be4ce897ed4ba78fdf", func := "luminaire/luminairelaw18.TrackingRuns", spec := "trackingRuns", inPlace := ["internal/bytealg.IndexByteString", "internal/bytealg.IndexString"], unfollowed := true, recurses := true, named := ["internal/bytealg.MaxLen", "strconv.ErrSyntax", "strconv.ErrRange", "internal/strconv.uint64pow10", "math/bits.deBruijn32tab", "math/bits.deBruijn64tab"], plainKeys := false, apart := false, laid := [("math/bits.deBruijn32tab", laid_math_bits_deBruijn32tab), ("math/bits.deBruijn64tab", laid_math_bits_deBruijn64tab), ("internal/strconv.uint64pow10", laid_internal_strconv_uint64pow10), ("strconv.ErrRange", laid_strconv_ErrRange), ("strconv.ErrSyntax", laid_strconv_ErrSyntax)], narrowed := true }
def TrackingRunsUptoSaid : Prop := trackingRunsUptoRow.holds Tryz.pinned (OpenSpec.upto trackingRunsSpec)

/-- 'luminairelaw18.TrackingSteps', WHERE WHAT IT READS IS OF BULK AT MOST 1048576: true; the input reads as it did. -/
def trackingStepsUptoRow : OpenClaim := { program := "ytieoaedbfdmocaagreatdoor", sum := "4236a657c3aba05259ea0680ed835abe2a5898d560c659be4ce897ed4ba78fdf", func := "luminaire/luminairelaw18.TrackingSteps", spec := "trackingSteps", inPlace := ["internal/bytealg.IndexByteString", "internal/bytealg.IndexString"], unfollowed := true, recurses := true, named := ["internal/bytealg.MaxLen", "strconv.ErrSyntax", "strconv.ErrRange", "internal/strconv.uint64pow10", "math/bits.deBruijn32tab", "math/bits.deBruijn64tab"], plainKeys := false, apart := false, laid := [("math/bits.deBruijn32tab", laid_math_bits_deBruijn32tab), ("math/bits.deBruijn64tab", laid_math_bits_deBruijn64tab), ("internal/strconv.uint64pow10", laid_internal_strconv_uint64pow10), ("strconv.ErrRange", laid_strconv_ErrRange), ("strconv.ErrSyntax", laid_strconv_ErrSyntax)], narrowed := true }
def TrackingStepsUptoSaid : Prop := trackingStepsUptoRow.holds Tryz.pinned (OpenSpec.upto trackingStepsSpec)

/-- 'luminairelaw18.TrackingStarts', WHERE WHAT IT READS IS OF BULK AT MOST 1048576: true; the input reads as it did. -/
def trackingStartsUptoRow : OpenClaim := { program := "ytieoaedbfdmocaagreatdoor", sum := "4236a657c3aba05259ea0680ed835abe2a5898d560c659be4ce897ed4ba78fdf", func := "luminaire/luminairelaw18.TrackingStarts", spec := "trackingStarts", inPlace := ["internal/bytealg.IndexByteString", "internal/bytealg.IndexString"], unfollowed := true, recurses := true, named := ["internal/bytealg.MaxLen", "strconv.ErrSyntax", "strconv.ErrRange", "internal/strconv.uint64pow10", "math/bits.deBruijn32tab", "math/bits.deBruijn64tab"], plainKeys := false, apart := false, laid := [("math/bits.deBruijn32tab", laid_math_bits_deBruijn32tab), ("math/bits.deBruijn64tab", laid_math_bits_deBruijn64tab), ("internal/strconv.uint64pow10", laid_internal_strconv_uint64pow10), ("strconv.ErrRange", laid_strconv_ErrRange), ("strconv.ErrSyntax", laid_strconv_ErrSyntax)], narrowed := true }
def TrackingStartsUptoSaid : Prop := trackingStartsUptoRow.holds Tryz.pinned (OpenSpec.upto trackingStartsSpec)

/-- 'luminairelaw18.TrackingTrims', WHERE WHAT IT READS IS OF BULK AT MOST 1048576: true; the input reads as it did. -/
def trackingTrimsUptoRow : OpenClaim := { program := "ytieoaedbfdmocaagreatdoor", sum := "4236a657c3aba05259ea0680ed835abe2a5898d560c659be4ce897ed4ba78fdf", func := "luminaire/luminairelaw18.TrackingTrims", spec := "trackingTrims", inPlace := ["internal/bytealg.IndexByteString", "internal/bytealg.IndexString"], unfollowed := true, recurses := true, named := ["internal/bytealg.MaxLen", "strconv.ErrSyntax", "strconv.ErrRange", "internal/strconv.uint64pow10", "math/bits.deBruijn32tab", "math/bits.deBruijn64tab"], plainKeys := false, apart := false, laid := [("math/bits.deBruijn32tab", laid_math_bits_deBruijn32tab), ("math/bits.deBruijn64tab", laid_math_bits_deBruijn64tab), ("internal/strconv.uint64pow10", laid_internal_strconv_uint64pow10), ("strconv.ErrRange", laid_strconv_ErrRange), ("strconv.ErrSyntax", laid_strconv_ErrSyntax)], narrowed := true }
def TrackingTrimsUptoSaid : Prop := trackingTrimsUptoRow.holds Tryz.pinned (OpenSpec.upto trackingTrimsSpec)

end Rows
end Go.Proofs.YtieoaedbfdmocaaGreatDoor
