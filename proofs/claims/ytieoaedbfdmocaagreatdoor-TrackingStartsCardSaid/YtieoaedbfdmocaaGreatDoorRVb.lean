/-
  A law as a contract (and what it needs).
-/
import Derived.Test.YtieoaedbfdmocaaGreatDoorRVa
set_option linter.unusedSimpArgs false
set_option linter.unusedVariables false
set_option linter.unusedSectionVars false
set_option linter.defProp false
set_option maxRecDepth 100000
set_option maxRecDepth 100000
namespace Go.Sx.La
open Go Go.Sx Go.RowKit Go.Proofs
def sheetL (cs : List Cue) (n : Nat) : List (List Ent) := (List.range n).map fun k => lookL cs (k + 1)
def enS (x : List Ent) : List D := [.slice (x.map Ent.enc)]
def sheetR (l : Lis) : List (List Ent) × Int := if checkL order05 l ≠ 0 then ([], checkL order05 l) else (sheetL l.cues l.cues.length, 0)
end Go.Sx.La
set_option maxRecDepth 100000
namespace Go.Sx.La
open Go Go.Sx Go.RowKit Go.Proofs
end Go.Sx.La
