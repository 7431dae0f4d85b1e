/- The law TranslitStays returns true for every input of the sizes that the row's condition lets in, the package variables that it reads holding what the row lists. Part 6 of the texts that its proof stands on; put together by a program. -/
import Derived.Test.YthcpdhniakpbaaaDoorTranslitStaysE
import Derived.Test.YthcpdhniakpbaaaDoorRows
import Derived.Deep.DeepHandedRow
import Derived.Deep.DeepWitnessRowRef
import Derived.Deep.SlicePairs
import Derived.Lib.LaidU8
import Derived.Lib.LaidIn
import Derived.ProofKit
import Derived.OpenShut
import Derived.SizedLaws
import Derived.WalkKit
section
namespace Go.Proofs.YthcpdhniakpbaaaDoor.X
open Go.ChangeShapes Go.WideShapes Go.ChangeAt Go.RowKit Go.Deep Go.Proofs.YthcpdhniakpbaaaDoorW.PrintWords
set_option linter.unusedVariables false
set_option linter.unusedSimpArgs false
theorem own : ownKnob Tryd.prog.godebug = none := by kernel_rfl
theorem laidOut : laidOutB Tryd.prog = true := by kernel_rfl
def laidA : List (String × DataW Unit) := [("unicode/utf8.acceptRanges", Rows.laid_unicode_utf8_acceptRanges), ("unicode.White_Space", Rows.laid_unicode_White_Space), ("strings.asciiSpace", Rows.laid_strings_asciiSpace), ("unicode/utf8.first", Rows.laid_unicode_utf8_first)]
theorem accE : Rows.laid_unicode_utf8_acceptRanges = Lib.acceptData := by kernel_rfl
theorem firstE : Rows.laid_unicode_utf8_first = Lib.firstData := by kernel_rfl
theorem whiteE : Rows.laid_unicode_White_Space = Lib.whiteData := by kernel_rfl
theorem spaceE : (Rows.laid_strings_asciiSpace : DataW Unit) = Lib.tabData .u8 Lib.asciiSpaceTab := by kernel_rfl
theorem u8X : U8Extra Tryd.prog Tryd.lays197_ren := ⟨by kernel_rfl, by kernel_rfl, by kernel_rfl, by kernel_rfl, by kernel_rfl, by kernel_rfl, by kernel_rfl⟩
theorem gt1_of {l : List (String × DataW Unit)} {W : World} (h : laidMet Tryd.prog l W) (h1 : ("unicode/utf8.first", Rows.laid_unicode_utf8_first) ∈ l) (h2 : ("unicode/utf8.acceptRanges", Rows.laid_unicode_utf8_acceptRanges) ∈ l) : GT1 W := by
  rw [firstE] at h1
  rw [accE] at h2
  exact ⟨utf8Tabs_of_reads { Tryd.lays197 with } u8X (Lib.laidMet.reads h h1) (Lib.laidMet.reads h h2)⟩
theorem whX : WhiteExtra Tryd.prog Tryd.lays157_ren := ⟨by kernel_rfl, by kernel_rfl, by kernel_rfl, by kernel_rfl, by kernel_rfl, by kernel_rfl, by kernel_rfl, by kernel_rfl⟩
theorem c5 : Tryd.prog.cellsOf 5 = 1 := by kernel_rfl
theorem tSpace : (Tryd.prog.globals[0]?).map (·.type) = some 99 := by kernel_rfl
theorem c99 : Tryd.prog.cellsOf 99 = 256 := by kernel_rfl
theorem gt2_of {W : World} (h : laidMet Tryd.prog laidA W) : GT2 W := by
  refine ⟨gt1_of h (by unfold laidA; simp) (by unfold laidA; simp), ?_, ?_⟩
  · have hm : ("strings.asciiSpace", Rows.laid_strings_asciiSpace) ∈ laidA := by unfold laidA; simp
    rw [spaceE] at hm
    obtain ⟨g, t, cs, fuel, p, hg, hty, hvar, hd⟩ := Lib.laidMet.reads h hm
    obtain rfl := Option.some.inj (gSpace.symm.trans hg)
    obtain rfl := Option.some.inj (tSpace.symm.trans hty)
    unfold Lib.TabIs
    rw [hvar, ← Lib.cells_of_tab Tryd.underlying99 Tryd.underlying5 c5 c99 hd]
  · have hm : ("unicode.White_Space", Rows.laid_unicode_White_Space) ∈ laidA := by unfold laidA; simp
    rw [whiteE] at hm
    exact whiteTab_of_reads { Tryd.lays157 with } whX (Lib.laidMet.reads h hm)
theorem open34 {H : Type} {enc : TypeId × Value → H} {W : World} {a0 : Option Addr} {len cap fuel : Nat} {x : DataW H × List MemPlace}
    (hf : DataW.trod enc Tryd.prog W 0 (fun _ => true) true fuel 22 [.slice a0 len cap] = some x) : ∃ l : List S34, l.length = len ∧ len ≤ cap ∧ Kd.C k34 W a0 l.length l := by
  rcases open_slice_pairs Tryd.underlying22 Tryd.underlying34 (by kernel_rfl) rfl rfl (by kernel_rfl) (by kernel_rfl) hf with ⟨hcs, hx⟩ | ⟨a, len', cap', m, n, V0, V1, D0, D1, P0, P1, hcs, _, hl, hm, hmm, hx, hcell⟩
  · simp at hcs
    obtain ⟨rfl, rfl, rfl⟩ := hcs
    exact ⟨[], rfl, Nat.le_refl _, Kd.C_nil _ _⟩
  · simp at hcs
    obtain ⟨rfl, rfl, rfl⟩ := hcs
    simp only [if_true] at hmm
    subst hmm
    have str : ∀ i, i < m → ∃ q : S34, V0 i = .string q.f0 ∧ V1 i = .string q.f1 := by
      intro i hi
      obtain ⟨_, _, h0, h1⟩ := hcell i hi
      obtain ⟨s0, e0, _, _⟩ := DataW.trod_string Tryd.underlying9 h0
      obtain ⟨s1, e1, _, _⟩ := DataW.trod_string Tryd.underlying9 h1
      simp only [List.cons.injEq, and_true] at e0 e1
      exact ⟨⟨s0, s1⟩, e0, e1⟩
    haveI : Inhabited S34 := ⟨z34⟩
    obtain ⟨q, hq⟩ := choose_lt str
    have hml : maxLen ≤ 9223372036854775807 := by decide
    refine ⟨(List.range len).map q, by simp, hl, by simp, by simp; omega, fun h0 => ⟨a, rfl, fun j p hj => ?_⟩⟩
    obtain ⟨hjl, hp⟩ := List.getElem?_eq_some_iff.1 hj
    have hjl' : j < len := by simpa using hjl
    have hp' : q j = p := by simpa using hp
    subst hp'
    refine ⟨[.string (q j).f0, .string (q j).f1], rfl, k34_mk W (q j), fun i u hu => ?_⟩
    obtain ⟨h0, h1, _, _⟩ := hcell j (by omega)
    obtain ⟨g0, g1⟩ := hq j (by omega)
    match i, hu with
    | 0, hu => simp at hu; subst hu; rw [← g0]; exact h0
    | 1, hu => simp at hu; subst hu; rw [← g1]; exact h1
def laidFour : List Obj := [.cells (Lib.asciiSpaceTab.map fun z => Value.int .u8 z).toArray 99 (0, 0), .cells (Lib.firstTab.map fun z => Value.int .u8 z).toArray 99 (0, 0),
  .cells ((List.range 16).flatMap fun i => [Value.int .u8 (Lib.accLo i), Value.int .u8 (Lib.accHi i)]).toArray 107 (0, 0), .cells #[.pointer (some ⟨12, 0, none⟩)] 115 (0, 0)]
def laidTwo : List Obj := [.cells (Lib.whiteT.map fun (z : Nat) => Value.int .u16 (z : Int)).toArray (Tryd.lays157_ren.t 198) (0, 0), .cells #[.slice (some ⟨11, 0, none⟩) 7 7, .slice none 0 0, .int .i64 2] (Tryd.lays157_ren.t 196) (0, 0)]
noncomputable def laidWorld (os : Os) : World :=
  { World.settled Tryd.prog os with heap := ⟨laidFour ++ ((World.settled Tryd.prog os).heap.toList.drop 4 ++ laidTwo)⟩ }
def rowsA : List (Addr × Nat) := [(⟨2, 0, none⟩, 32), (⟨3, 0, none⟩, 1), (⟨12, 0, none⟩, 3), (⟨11, 0, none⟩, 21), (⟨0, 0, none⟩, 256), (⟨1, 0, none⟩, 256)]
set_option maxRecDepth 100000 in
theorem laidA_met (os : Os) (args : Array Value) : laidMet Tryd.prog laidA ((laidWorld os).forCall (fun _ _ => 0) ⟨#[], args, []⟩).memory :=
  laidMet_of_run (ps := rowsA.flatMap fun r => MemPlace.row r.1 r.2) 10 (by kernel_rfl) (decide_eq_true (rows_nodup rowsA (by decide))) (by kernel_rfl)
end Go.Proofs.YthcpdhniakpbaaaDoor.X
end
