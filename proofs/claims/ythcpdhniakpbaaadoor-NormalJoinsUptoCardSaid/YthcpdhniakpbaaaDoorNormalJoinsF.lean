/- The law NormalJoins returns true for every input of the sizes that the row's condition lets in, the package variables that it reads holding what the row lists. Part 6 of the texts that its proof stands on; put together by a program. -/
import Derived.Test.YthcpdhniakpbaaaDoorNormalJoinsE
import Derived.Test.YthcpdhniakpbaaaDoorRows
import Derived.Deep.DeepHandedRow
import Derived.Deep.DeepWitnessRowRef
import Derived.Deep.SlicePairs
import Derived.Lib.LaidU8
import Derived.Lib.LaidIn
import Derived.ProofKit
import Derived.OpenShut
import Derived.SizedLaws
import Derived.WalkKit
section
namespace Go.Proofs.YthcpdhniakpbaaaDoor.X
open Go.ChangeShapes Go.WideShapes Go.ChangeAt Go.RowKit Go.Deep Go.Proofs.YthcpdhniakpbaaaDoorW.PrintWords
set_option linter.unusedVariables false
set_option linter.unusedSimpArgs false
theorem own : ownKnob Tryd.prog.godebug = none := by kernel_rfl
def laidB : List (String × DataW Unit) := [("unicode/utf8.acceptRanges", Rows.laid_unicode_utf8_acceptRanges), ("unicode/utf8.first", Rows.laid_unicode_utf8_first)]
theorem accE : Rows.laid_unicode_utf8_acceptRanges = Lib.acceptData := by kernel_rfl
theorem firstE : Rows.laid_unicode_utf8_first = Lib.firstData := by kernel_rfl
theorem u8X : U8Extra Tryd.prog Tryd.lays197_ren := ⟨by kernel_rfl, by kernel_rfl, by kernel_rfl, by kernel_rfl, by kernel_rfl, by kernel_rfl, by kernel_rfl⟩
theorem gt1_of {l : List (String × DataW Unit)} {W : World} (h : laidMet Tryd.prog l W) (h1 : ("unicode/utf8.first", Rows.laid_unicode_utf8_first) ∈ l) (h2 : ("unicode/utf8.acceptRanges", Rows.laid_unicode_utf8_acceptRanges) ∈ l) : GT1 W := by
  rw [firstE] at h1
  rw [accE] at h2
  exact ⟨utf8Tabs_of_reads { Tryd.lays197 with } u8X (Lib.laidMet.reads h h1) (Lib.laidMet.reads h h2)⟩
theorem c5 : Tryd.prog.cellsOf 5 = 1 := by kernel_rfl
theorem gt1B_of {W : World} (h : laidMet Tryd.prog laidB W) : GT1 W := gt1_of h (by unfold laidB; simp) (by unfold laidB; simp)
def laidFour : List Obj := [.cells (Lib.asciiSpaceTab.map fun z => Value.int .u8 z).toArray 99 (0, 0), .cells (Lib.firstTab.map fun z => Value.int .u8 z).toArray 99 (0, 0),
  .cells ((List.range 16).flatMap fun i => [Value.int .u8 (Lib.accLo i), Value.int .u8 (Lib.accHi i)]).toArray 107 (0, 0), .cells #[.pointer (some ⟨12, 0, none⟩)] 115 (0, 0)]
def laidTwo : List Obj := [.cells (Lib.whiteT.map fun (z : Nat) => Value.int .u16 (z : Int)).toArray (Tryd.lays157_ren.t 198) (0, 0), .cells #[.slice (some ⟨11, 0, none⟩) 7 7, .slice none 0 0, .int .i64 2] (Tryd.lays157_ren.t 196) (0, 0)]
noncomputable def laidWorld (os : Os) : World :=
  { World.settled Tryd.prog os with heap := ⟨laidFour ++ ((World.settled Tryd.prog os).heap.toList.drop 4 ++ laidTwo)⟩ }
def rowsB : List (Addr × Nat) := [(⟨2, 0, none⟩, 32), (⟨1, 0, none⟩, 256)]
set_option maxRecDepth 100000 in
theorem laidB_met (os : Os) (args : Array Value) : laidMet Tryd.prog laidB ((laidWorld os).forCall (fun _ _ => 0) ⟨#[], args, []⟩).memory :=
  laidMet_of_run (ps := rowsB.flatMap fun r => MemPlace.row r.1 r.2) 10 (by kernel_rfl) (decide_eq_true (rows_nodup rowsB (by decide))) (by kernel_rfl)
end Go.Proofs.YthcpdhniakpbaaaDoor.X
end
