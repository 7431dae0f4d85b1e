/-
  NARROWER THAN 'FOR EVERY INPUT', by the rows' own cells (each row's printed sentence says how): TranslitTo: laid · TranslitRound: laid · TranslitLongest: laid · TranslitJoins: laid · TranslitTables: laid · TranslitCyrillic: laid · TranslitStays: laid · NormalForms: laid · NormalTwice: laid · NormalEqual: laid · NormalOrder: laid · NormalJoins: laid · NormalStrips: laid · NormalLetters: laid.
  DERIVED. THE GIVEN ROWS OF THIS SEAT. 14 by the template 'for every input the law returns true; each argument reads behind the call as it read before'; 0 by the template 'total and deterministic' (their statements: YthcpdhniakpbaaaDoorTotals.lean).
  GIVEN WITH THE SEED: the statements are not yours to turn. If you find one false, say at which input.
  Laid BY PROGRAM, IN A SANDBOX (cutbox-rows.mjs): the forced cells as the released guide's own fill.sh prints them over the translation ffe04462afdaf238… (all of the seat's roots in one cut). By AI agents, Wed Nov 11 2026. No macro, syntax, notation, axiom, sorry.
-/
import Derived.Test.YthcpdhniakpbaaaDoorChecked
import GoSem.PinnedTables
import GoSem.Claim
import GoSem.ClaimJoined
import GoSem.ClaimMapViews
import Derived.JoinedTies
import Derived.KernelRfl
namespace Go.Proofs.YthcpdhniakpbaaaDoor
/- THE CELL 'sum', in the pinned program and in every row, IS THE sha256 OF THE DUMP (.gsa) THAT YthcpdhniakpbaaaDoorProg.lean LOADS. Nothing in Lean hashes anything: it is a label: what it is worth is what the hold of that sum in a sandbox is worth. -/
noncomputable def Tryd.pinned : Pinned := { name := "ythcpdhniakpbaaadoor", sum := "ffe04462afdaf238538125400ec5a139c044c8555aa7436307e8eefc4a1cfc5d", checked := Tryd.checked }
namespace Rows
def none {H : Type} : Left H := { results := [], args := [] }

/- WHAT THE LISTED PACKAGE-LEVEL VARIABLES READ AS WHEN THE CALL BEGINS. Each datum BY PROGRAM (the guide's laid-datum.mjs) off the statement by which the dump's own 'gosem.cut.vars' lays the variable. In a bare row this is a premise. The card (YthcpdhniakpbaaaDoorCards.lean) ties it to the program's text. -/
def laid_unicode_utf8_acceptRanges {H : Type} : DataW H := .agg [.agg [.lit (.int .u8 128), .lit (.int .u8 191)], .agg [.lit (.int .u8 160), .lit (.int .u8 191)], .agg [.lit (.int .u8 128), .lit (.int .u8 159)], .agg [.lit (.int .u8 144), .lit (.int .u8 191)], .agg [.lit (.int .u8 128), .lit (.int .u8 143)], .agg [.lit (.int .u8 0), .lit (.int .u8 0)], .agg [.lit (.int .u8 0), .lit (.int .u8 0)], .agg [.lit (.int .u8 0), .lit (.int .u8 0)], .agg [.lit (.int .u8 0), .lit (.int .u8 0)], .agg [.lit (.int .u8 0), .lit (.int .u8 0)], .agg [.lit (.int .u8 0), .lit (.int .u8 0)], .agg [.lit (.int .u8 0), .lit (.int .u8 0)], .agg [.lit (.int .u8 0), .lit (.int .u8 0)], .agg [.lit (.int .u8 0), .lit (.int .u8 0)], .agg [.lit (.int .u8 0), .lit (.int .u8 0)], .agg [.lit (.int .u8 0), .lit (.int .u8 0)]]
def laid_unicode_White_Space {H : Type} : DataW H := .ptr (.agg [.slice [.agg [.lit (.int .u16 9), .lit (.int .u16 13), .lit (.int .u16 1)], .agg [.lit (.int .u16 32), .lit (.int .u16 133), .lit (.int .u16 101)], .agg [.lit (.int .u16 160), .lit (.int .u16 5760), .lit (.int .u16 5600)], .agg [.lit (.int .u16 8192), .lit (.int .u16 8202), .lit (.int .u16 1)], .agg [.lit (.int .u16 8232), .lit (.int .u16 8233), .lit (.int .u16 1)], .agg [.lit (.int .u16 8239), .lit (.int .u16 8287), .lit (.int .u16 48)], .agg [.lit (.int .u16 12288), .lit (.int .u16 12288), .lit (.int .u16 1)]] [], .nil, .lit (.int .i64 2)])
def laid_strings_asciiSpace {H : Type} : DataW H := .agg [.lit (.int .u8 0), .lit (.int .u8 0), .lit (.int .u8 0), .lit (.int .u8 0), .lit (.int .u8 0), .lit (.int .u8 0), .lit (.int .u8 0), .lit (.int .u8 0), .lit (.int .u8 0), .lit (.int .u8 1), .lit (.int .u8 1), .lit (.int .u8 1), .lit (.int .u8 1), .lit (.int .u8 1), .lit (.int .u8 0), .lit (.int .u8 0), .lit (.int .u8 0), .lit (.int .u8 0), .lit (.int .u8 0), .lit (.int .u8 0), .lit (.int .u8 0), .lit (.int .u8 0), .lit (.int .u8 0), .lit (.int .u8 0), .lit (.int .u8 0), .lit (.int .u8 0), .lit (.int .u8 0), .lit (.int .u8 0), .lit (.int .u8 0), .lit (.int .u8 0), .lit (.int .u8 0), .lit (.int .u8 0), .lit (.int .u8 1), .lit (.int .u8 0), .lit (.int .u8 0), .lit (.int .u8 0), .lit (.int .u8 0), .lit (.int .u8 0), .lit (.int .u8 0), .lit (.int .u8 0), .lit (.int .u8 0), .lit (.int .u8 0), .lit (.int .u8 0), .lit (.int .u8 0), .lit (.int .u8 0), .lit (.int .u8 0), .lit (.int .u8 0), .lit (.int .u8 0), .lit (.int .u8 0), .lit (.int .u8 0), .lit (.int .u8 0), .lit (.int .u8 0), .lit (.int .u8 0), .lit (.int .u8 0), .lit (.int .u8 0), .lit (.int .u8 0), .lit (.int .u8 0), .lit (.int .u8 0), .lit (.int .u8 0), .lit (.int .u8 0), .lit (.int .u8 0), .lit (.int .u8 0), .lit (.int .u8 0), .lit (.int .u8 0), .lit (.int .u8 0), .lit (.int .u8 0), .lit (.int .u8 0), .lit (.int .u8 0), .lit (.int .u8 0), .lit (.int .u8 0), .lit (.int .u8 0), .lit (.int .u8 0), .lit (.int .u8 0), .lit (.int .u8 0), .lit (.int .u8 0), .lit (.int .u8 0), .lit (.int .u8 0), .lit (.int .u8 0), .lit (.int .u8 0), .lit (.int .u8 0), .lit (.int .u8 0), .lit (.int .u8 0), .lit (.int .u8 0), .lit (.int .u8 0), .lit (.int .u8 0), .lit (.int .u8 0), .lit (.int .u8 0), .lit (.int .u8 0), .lit (.int .u8 0), .lit (.int .u8 0), .lit (.int .u8 0), .lit (.int .u8 0), .lit (.int .u8 0), .lit (.int .u8 0), .lit (.int .u8 0), .lit (.int .u8 0), .lit (.int .u8 0), .lit (.int .u8 0), .lit (.int .u8 0), .lit (.int .u8 0), .lit (.int .u8 0), .lit (.int .u8 0), .lit (.int .u8 0), .lit (.int .u8 0), .lit (.int .u8 0), .lit (.int .u8 0), .lit (.int .u8 0), .lit (.int .u8 0), .lit (.int .u8 0), .lit (.int .u8 0), .lit (.int .u8 0), .lit (.int .u8 0), .lit (.int .u8 0), .lit (.int .u8 0), .lit (.int .u8 0), .lit (.int .u8 0), .lit (.int .u8 0), .lit (.int .u8 0), .lit (.int .u8 0), .lit (.int .u8 0), .lit (.int .u8 0), .lit (.int .u8 0), .lit (.int .u8 0), .lit (.int .u8 0), .lit (.int .u8 0), .lit (.int .u8 0), .lit (.int .u8 0), .lit (.int .u8 0), .lit (.int .u8 0), .lit (.int .u8 0), .lit (.int .u8 0), .lit (.int .u8 0), .lit (.int .u8 0), .lit (.int .u8 0), .lit (.int .u8 0), .lit (.int .u8 0), .lit (.int .u8 0), .lit (.int .u8 0), .lit (.int .u8 0), .lit (.int .u8 0), .lit (.int .u8 0), .lit (.int .u8 0), .lit (.int .u8 0), .lit (.int .u8 0), .lit (.int .u8 0), .lit (.int .u8 0), .lit (.int .u8 0), .lit (.int .u8 0), .lit (.int .u8 0), .lit (.int .u8 0), .lit (.int .u8 0), .lit (.int .u8 0), .lit (.int .u8 0), .lit (.int .u8 0), .lit (.int .u8 0), .lit (.int .u8 0), .lit (.int .u8 0), .lit (.int .u8 0), .lit (.int .u8 0), .lit (.int .u8 0), .lit (.int .u8 0), .lit (.int .u8 0), .lit (.int .u8 0), .lit (.int .u8 0), .lit (.int .u8 0), .lit (.int .u8 0), .lit (.int .u8 0), .lit (.int .u8 0), .lit (.int .u8 0), .lit (.int .u8 0), .lit (.int .u8 0), .lit (.int .u8 0), .lit (.int .u8 0), .lit (.int .u8 0), .lit (.int .u8 0), .lit (.int .u8 0), .lit (.int .u8 0), .lit (.int .u8 0), .lit (.int .u8 0), .lit (.int .u8 0), .lit (.int .u8 0), .lit (.int .u8 0), .lit (.int .u8 0), .lit (.int .u8 0), .lit (.int .u8 0), .lit (.int .u8 0), .lit (.int .u8 0), .lit (.int .u8 0), .lit (.int .u8 0), .lit (.int .u8 0), .lit (.int .u8 0), .lit (.int .u8 0), .lit (.int .u8 0), .lit (.int .u8 0), .lit (.int .u8 0), .lit (.int .u8 0), .lit (.int .u8 0), .lit (.int .u8 0), .lit (.int .u8 0), .lit (.int .u8 0), .lit (.int .u8 0), .lit (.int .u8 0), .lit (.int .u8 0), .lit (.int .u8 0), .lit (.int .u8 0), .lit (.int .u8 0), .lit (.int .u8 0), .lit (.int .u8 0), .lit (.int .u8 0), .lit (.int .u8 0), .lit (.int .u8 0), .lit (.int .u8 0), .lit (.int .u8 0), .lit (.int .u8 0), .lit (.int .u8 0), .lit (.int .u8 0), .lit (.int .u8 0), .lit (.int .u8 0), .lit (.int .u8 0), .lit (.int .u8 0), .lit (.int .u8 0), .lit (.int .u8 0), .lit (.int .u8 0), .lit (.int .u8 0), .lit (.int .u8 0), .lit (.int .u8 0), .lit (.int .u8 0), .lit (.int .u8 0), .lit (.int .u8 0), .lit (.int .u8 0), .lit (.int .u8 0), .lit (.int .u8 0), .lit (.int .u8 0), .lit (.int .u8 0), .lit (.int .u8 0), .lit (.int .u8 0), .lit (.int .u8 0), .lit (.int .u8 0), .lit (.int .u8 0), .lit (.int .u8 0), .lit (.int .u8 0), .lit (.int .u8 0), .lit (.int .u8 0), .lit (.int .u8 0), .lit (.int .u8 0), .lit (.int .u8 0), .lit (.int .u8 0), .lit (.int .u8 0), .lit (.int .u8 0), .lit (.int .u8 0), .lit (.int .u8 0), .lit (.int .u8 0), .lit (.int .u8 0), .lit (.int .u8 0), .lit (.int .u8 0), .lit (.int .u8 0)]
/-- One of Go's own tables, pinned by name: the form's constant. -/
def laid_unicode_utf8_first : DataW Unit := Go.Pinned.utf8First

/-- 'bookplatelaw07.TranslitTo': WHATEVER THE INPUT: true; the input reads as it did. -/
def translitToSpec : ChangeSpec := { name := "translitTo", fn := fun _ => fun
  | [d1, d2] => { results := [.lit (.bool true)], args := [d1, d2] }
  | _ => none }
def translitToRow : OpenClaim := { program := "ythcpdhniakpbaaadoor", sum := "ffe04462afdaf238538125400ec5a139c044c8555aa7436307e8eefc4a1cfc5d", func := "bookplate/bookplatelaw07.TranslitTo", spec := "translitTo", inPlace := ["internal/bytealg.IndexByteString", "internal/bytealg.IndexString", "internal/abi.NoEscape"], unfollowed := true, recurses := true, named := ["strings.asciiSpace", "unicode.White_Space", "unicode/utf8.first", "unicode/utf8.acceptRanges", "internal/bytealg.MaxLen"], apart := false, laid := [("unicode/utf8.acceptRanges", laid_unicode_utf8_acceptRanges), ("unicode.White_Space", laid_unicode_White_Space), ("strings.asciiSpace", laid_strings_asciiSpace), ("unicode/utf8.first", laid_unicode_utf8_first)] }
def TranslitToSaid : Prop := translitToRow.holds Tryd.pinned (OpenSpec.ofChange translitToSpec)

/-- ITS FALSE NEIGHBOUR: 'it returns false'. Refute it at one input. -/
def translitToWrong : ChangeSpec := { name := "translitTo", fn := fun _ => fun
  | [d1, d2] => { results := [.lit (.bool false)], args := [d1, d2] }
  | _ => none }
def TranslitToWrongFalsely : Prop := translitToRow.holds Tryd.pinned (OpenSpec.ofChange translitToWrong)

/-- 'bookplatelaw07.TranslitRound': WHATEVER THE INPUT: true; the input reads as it did. -/
def translitRoundSpec : ChangeSpec := { name := "translitRound", fn := fun _ => fun
  | [d1, d2] => { results := [.lit (.bool true)], args := [d1, d2] }
  | _ => none }
def translitRoundRow : OpenClaim := { program := "ythcpdhniakpbaaadoor", sum := "ffe04462afdaf238538125400ec5a139c044c8555aa7436307e8eefc4a1cfc5d", func := "bookplate/bookplatelaw07.TranslitRound", spec := "translitRound", inPlace := ["internal/bytealg.IndexByteString", "internal/bytealg.IndexString", "internal/abi.NoEscape"], unfollowed := true, recurses := true, named := ["strings.asciiSpace", "unicode.White_Space", "unicode/utf8.first", "unicode/utf8.acceptRanges", "internal/bytealg.MaxLen"], apart := false, laid := [("unicode/utf8.acceptRanges", laid_unicode_utf8_acceptRanges), ("unicode.White_Space", laid_unicode_White_Space), ("strings.asciiSpace", laid_strings_asciiSpace), ("unicode/utf8.first", laid_unicode_utf8_first)] }
def TranslitRoundSaid : Prop := translitRoundRow.holds Tryd.pinned (OpenSpec.ofChange translitRoundSpec)

/-- ITS FALSE NEIGHBOUR: 'it returns false'. Refute it at one input. -/
def translitRoundWrong : ChangeSpec := { name := "translitRound", fn := fun _ => fun
  | [d1, d2] => { results := [.lit (.bool false)], args := [d1, d2] }
  | _ => none }
def TranslitRoundWrongFalsely : Prop := translitRoundRow.holds Tryd.pinned (OpenSpec.ofChange translitRoundWrong)

/-- 'bookplatelaw07.TranslitLongest': WHATEVER THE INPUT: true; the input reads as it did. -/
def translitLongestSpec : ChangeSpec := { name := "translitLongest", fn := fun _ => fun
  | [d1, d2] => { results := [.lit (.bool true)], args := [d1, d2] }
  | _ => none }
def translitLongestRow : OpenClaim := { program := "ythcpdhniakpbaaadoor", sum := "ffe04462afdaf238538125400ec5a139c044c8555aa7436307e8eefc4a1cfc5d", func := "bookplate/bookplatelaw07.TranslitLongest", spec := "translitLongest", inPlace := ["internal/bytealg.IndexByteString", "internal/bytealg.IndexString", "internal/abi.NoEscape"], unfollowed := true, recurses := true, named := ["strings.asciiSpace", "unicode.White_Space", "unicode/utf8.first", "unicode/utf8.acceptRanges", "internal/bytealg.MaxLen"], apart := false, laid := [("unicode/utf8.acceptRanges", laid_unicode_utf8_acceptRanges), ("unicode.White_Space", laid_unicode_White_Space), ("strings.asciiSpace", laid_strings_asciiSpace), ("unicode/utf8.first", laid_unicode_utf8_first)] }
def TranslitLongestSaid : Prop := translitLongestRow.holds Tryd.pinned (OpenSpec.ofChange translitLongestSpec)

/-- ITS FALSE NEIGHBOUR: 'it returns false'. Refute it at one input. -/
def translitLongestWrong : ChangeSpec := { name := "translitLongest", fn := fun _ => fun
  | [d1, d2] => { results := [.lit (.bool false)], args := [d1, d2] }
  | _ => none }
def TranslitLongestWrongFalsely : Prop := translitLongestRow.holds Tryd.pinned (OpenSpec.ofChange translitLongestWrong)

/-- 'bookplatelaw07.TranslitJoins': WHATEVER THE INPUT: true; the input reads as it did. -/
def translitJoinsSpec : ChangeSpec := { name := "translitJoins", fn := fun _ => fun
  | [d1, d2, d3] => { results := [.lit (.bool true)], args := [d1, d2, d3] }
  | _ => none }
def translitJoinsRow : OpenClaim := { program := "ythcpdhniakpbaaadoor", sum := "ffe04462afdaf238538125400ec5a139c044c8555aa7436307e8eefc4a1cfc5d", func := "bookplate/bookplatelaw07.TranslitJoins", spec := "translitJoins", inPlace := ["internal/bytealg.IndexByteString", "internal/bytealg.IndexString", "internal/abi.NoEscape"], unfollowed := true, recurses := true, named := ["strings.asciiSpace", "unicode.White_Space", "unicode/utf8.first", "unicode/utf8.acceptRanges", "internal/bytealg.MaxLen"], apart := false, laid := [("unicode/utf8.acceptRanges", laid_unicode_utf8_acceptRanges), ("unicode.White_Space", laid_unicode_White_Space), ("strings.asciiSpace", laid_strings_asciiSpace), ("unicode/utf8.first", laid_unicode_utf8_first)] }
def TranslitJoinsSaid : Prop := translitJoinsRow.holds Tryd.pinned (OpenSpec.ofChange translitJoinsSpec)

/-- ITS FALSE NEIGHBOUR: 'it returns false'. Refute it at one input. -/
def translitJoinsWrong : ChangeSpec := { name := "translitJoins", fn := fun _ => fun
  | [d1, d2, d3] => { results := [.lit (.bool false)], args := [d1, d2, d3] }
  | _ => none }
def TranslitJoinsWrongFalsely : Prop := translitJoinsRow.holds Tryd.pinned (OpenSpec.ofChange translitJoinsWrong)

/-- 'bookplatelaw07.TranslitTables': WHATEVER THE INPUT: true; the input reads as it did. -/
def translitTablesSpec : ChangeSpec := { name := "translitTables", fn := fun _ => fun
  | [] => { results := [.lit (.bool true)], args := [] }
  | _ => none }
def translitTablesRow : OpenClaim := { program := "ythcpdhniakpbaaadoor", sum := "ffe04462afdaf238538125400ec5a139c044c8555aa7436307e8eefc4a1cfc5d", func := "bookplate/bookplatelaw07.TranslitTables", spec := "translitTables", inPlace := ["internal/bytealg.IndexByteString", "internal/bytealg.IndexString", "internal/abi.NoEscape"], unfollowed := true, recurses := true, named := ["strings.asciiSpace", "unicode.White_Space", "unicode/utf8.first", "unicode/utf8.acceptRanges", "internal/bytealg.MaxLen"], apart := false, laid := [("unicode/utf8.acceptRanges", laid_unicode_utf8_acceptRanges), ("unicode.White_Space", laid_unicode_White_Space), ("strings.asciiSpace", laid_strings_asciiSpace), ("unicode/utf8.first", laid_unicode_utf8_first)] }
def TranslitTablesSaid : Prop := translitTablesRow.holds Tryd.pinned (OpenSpec.ofChange translitTablesSpec)

/-- ITS FALSE NEIGHBOUR: 'it returns false'. Refute it at one input. -/
def translitTablesWrong : ChangeSpec := { name := "translitTables", fn := fun _ => fun
  | [] => { results := [.lit (.bool false)], args := [] }
  | _ => none }
def TranslitTablesWrongFalsely : Prop := translitTablesRow.holds Tryd.pinned (OpenSpec.ofChange translitTablesWrong)

/-- 'bookplatelaw07.TranslitCyrillic': WHATEVER THE INPUT: true; the input reads as it did. -/
def translitCyrillicSpec : ChangeSpec := { name := "translitCyrillic", fn := fun _ => fun
  | [d] => { results := [.lit (.bool true)], args := [d] }
  | _ => none }
def translitCyrillicRow : OpenClaim := { program := "ythcpdhniakpbaaadoor", sum := "ffe04462afdaf238538125400ec5a139c044c8555aa7436307e8eefc4a1cfc5d", func := "bookplate/bookplatelaw07.TranslitCyrillic", spec := "translitCyrillic", inPlace := ["internal/bytealg.IndexByteString", "internal/bytealg.IndexString", "internal/abi.NoEscape"], unfollowed := true, recurses := true, named := ["strings.asciiSpace", "unicode.White_Space", "unicode/utf8.first", "unicode/utf8.acceptRanges", "internal/bytealg.MaxLen"], apart := false, laid := [("unicode/utf8.acceptRanges", laid_unicode_utf8_acceptRanges), ("unicode.White_Space", laid_unicode_White_Space), ("strings.asciiSpace", laid_strings_asciiSpace), ("unicode/utf8.first", laid_unicode_utf8_first)] }
def TranslitCyrillicSaid : Prop := translitCyrillicRow.holds Tryd.pinned (OpenSpec.ofChange translitCyrillicSpec)

/-- ITS FALSE NEIGHBOUR: 'it returns false'. Refute it at one input. -/
def translitCyrillicWrong : ChangeSpec := { name := "translitCyrillic", fn := fun _ => fun
  | [d] => { results := [.lit (.bool false)], args := [d] }
  | _ => none }
def TranslitCyrillicWrongFalsely : Prop := translitCyrillicRow.holds Tryd.pinned (OpenSpec.ofChange translitCyrillicWrong)

/-- 'bookplatelaw07.TranslitStays': WHATEVER THE INPUT: true; the input reads as it did. -/
def translitStaysSpec : ChangeSpec := { name := "translitStays", fn := fun _ => fun
  | [d1, d2] => { results := [.lit (.bool true)], args := [d1, d2] }
  | _ => none }
def translitStaysRow : OpenClaim := { program := "ythcpdhniakpbaaadoor", sum := "ffe04462afdaf238538125400ec5a139c044c8555aa7436307e8eefc4a1cfc5d", func := "bookplate/bookplatelaw07.TranslitStays", spec := "translitStays", inPlace := ["internal/bytealg.IndexByteString", "internal/bytealg.IndexString", "internal/abi.NoEscape"], unfollowed := true, recurses := true, named := ["strings.asciiSpace", "unicode.White_Space", "unicode/utf8.first", "unicode/utf8.acceptRanges", "internal/bytealg.MaxLen"], apart := false, laid := [("unicode/utf8.acceptRanges", laid_unicode_utf8_acceptRanges), ("unicode.White_Space", laid_unicode_White_Space), ("strings.asciiSpace", laid_strings_asciiSpace), ("unicode/utf8.first", laid_unicode_utf8_first)] }
def TranslitStaysSaid : Prop := translitStaysRow.holds Tryd.pinned (OpenSpec.ofChange translitStaysSpec)

/-- ITS FALSE NEIGHBOUR: 'it returns false'. Refute it at one input. -/
def translitStaysWrong : ChangeSpec := { name := "translitStays", fn := fun _ => fun
  | [d1, d2] => { results := [.lit (.bool false)], args := [d1, d2] }
  | _ => none }
def TranslitStaysWrongFalsely : Prop := translitStaysRow.holds Tryd.pinned (OpenSpec.ofChange translitStaysWrong)

/-- 'bookplatelaw05.NormalForms': WHATEVER THE INPUT: true; the input reads as it did. -/
def normalFormsSpec : ChangeSpec := { name := "normalForms", fn := fun _ => fun
  | [d] => { results := [.lit (.bool true)], args := [d] }
  | _ => none }
def normalFormsRow : OpenClaim := { program := "ythcpdhniakpbaaadoor", sum := "ffe04462afdaf238538125400ec5a139c044c8555aa7436307e8eefc4a1cfc5d", func := "bookplate/bookplatelaw05.NormalForms", spec := "normalForms", inPlace := ["internal/bytealg.IndexByteString", "internal/bytealg.IndexString", "internal/abi.NoEscape"], unfollowed := true, recurses := true, named := ["unicode/utf8.first", "unicode/utf8.acceptRanges", "internal/bytealg.MaxLen"], apart := false, laid := [("unicode/utf8.acceptRanges", laid_unicode_utf8_acceptRanges), ("unicode/utf8.first", laid_unicode_utf8_first)] }
def NormalFormsSaid : Prop := normalFormsRow.holds Tryd.pinned (OpenSpec.ofChange normalFormsSpec)

/-- ITS FALSE NEIGHBOUR: 'it returns false'. Refute it at one input. -/
def normalFormsWrong : ChangeSpec := { name := "normalForms", fn := fun _ => fun
  | [d] => { results := [.lit (.bool false)], args := [d] }
  | _ => none }
def NormalFormsWrongFalsely : Prop := normalFormsRow.holds Tryd.pinned (OpenSpec.ofChange normalFormsWrong)

/-- 'bookplatelaw05.NormalTwice': WHATEVER THE INPUT: true; the input reads as it did. -/
def normalTwiceSpec : ChangeSpec := { name := "normalTwice", fn := fun _ => fun
  | [d] => { results := [.lit (.bool true)], args := [d] }
  | _ => none }
def normalTwiceRow : OpenClaim := { program := "ythcpdhniakpbaaadoor", sum := "ffe04462afdaf238538125400ec5a139c044c8555aa7436307e8eefc4a1cfc5d", func := "bookplate/bookplatelaw05.NormalTwice", spec := "normalTwice", inPlace := ["internal/bytealg.IndexByteString", "internal/bytealg.IndexString", "internal/abi.NoEscape"], unfollowed := true, recurses := true, named := ["unicode/utf8.first", "unicode/utf8.acceptRanges", "internal/bytealg.MaxLen"], apart := false, laid := [("unicode/utf8.acceptRanges", laid_unicode_utf8_acceptRanges), ("unicode/utf8.first", laid_unicode_utf8_first)] }
def NormalTwiceSaid : Prop := normalTwiceRow.holds Tryd.pinned (OpenSpec.ofChange normalTwiceSpec)

/-- ITS FALSE NEIGHBOUR: 'it returns false'. Refute it at one input. -/
def normalTwiceWrong : ChangeSpec := { name := "normalTwice", fn := fun _ => fun
  | [d] => { results := [.lit (.bool false)], args := [d] }
  | _ => none }
def NormalTwiceWrongFalsely : Prop := normalTwiceRow.holds Tryd.pinned (OpenSpec.ofChange normalTwiceWrong)

/-- 'bookplatelaw05.NormalEqual': WHATEVER THE INPUT: true; the input reads as it did. -/
def normalEqualSpec : ChangeSpec := { name := "normalEqual", fn := fun _ => fun
  | [d1, d2] => { results := [.lit (.bool true)], args := [d1, d2] }
  | _ => none }
def normalEqualRow : OpenClaim := { program := "ythcpdhniakpbaaadoor", sum := "ffe04462afdaf238538125400ec5a139c044c8555aa7436307e8eefc4a1cfc5d", func := "bookplate/bookplatelaw05.NormalEqual", spec := "normalEqual", inPlace := ["internal/bytealg.IndexByteString", "internal/bytealg.IndexString", "internal/abi.NoEscape"], unfollowed := true, recurses := true, named := ["unicode/utf8.first", "unicode/utf8.acceptRanges", "internal/bytealg.MaxLen"], apart := false, laid := [("unicode/utf8.acceptRanges", laid_unicode_utf8_acceptRanges), ("unicode/utf8.first", laid_unicode_utf8_first)] }
def NormalEqualSaid : Prop := normalEqualRow.holds Tryd.pinned (OpenSpec.ofChange normalEqualSpec)

/-- ITS FALSE NEIGHBOUR: 'it returns false'. Refute it at one input. -/
def normalEqualWrong : ChangeSpec := { name := "normalEqual", fn := fun _ => fun
  | [d1, d2] => { results := [.lit (.bool false)], args := [d1, d2] }
  | _ => none }
def NormalEqualWrongFalsely : Prop := normalEqualRow.holds Tryd.pinned (OpenSpec.ofChange normalEqualWrong)

/-- 'bookplatelaw05.NormalOrder': WHATEVER THE INPUT: true; the input reads as it did. -/
def normalOrderSpec : ChangeSpec := { name := "normalOrder", fn := fun _ => fun
  | [d1, d2] => { results := [.lit (.bool true)], args := [d1, d2] }
  | _ => none }
def normalOrderRow : OpenClaim := { program := "ythcpdhniakpbaaadoor", sum := "ffe04462afdaf238538125400ec5a139c044c8555aa7436307e8eefc4a1cfc5d", func := "bookplate/bookplatelaw05.NormalOrder", spec := "normalOrder", inPlace := ["internal/bytealg.IndexByteString", "internal/bytealg.IndexString", "internal/abi.NoEscape"], unfollowed := true, recurses := true, named := ["unicode/utf8.first", "unicode/utf8.acceptRanges", "internal/bytealg.MaxLen"], apart := false, laid := [("unicode/utf8.acceptRanges", laid_unicode_utf8_acceptRanges), ("unicode/utf8.first", laid_unicode_utf8_first)] }
def NormalOrderSaid : Prop := normalOrderRow.holds Tryd.pinned (OpenSpec.ofChange normalOrderSpec)

/-- ITS FALSE NEIGHBOUR: 'it returns false'. Refute it at one input. -/
def normalOrderWrong : ChangeSpec := { name := "normalOrder", fn := fun _ => fun
  | [d1, d2] => { results := [.lit (.bool false)], args := [d1, d2] }
  | _ => none }
def NormalOrderWrongFalsely : Prop := normalOrderRow.holds Tryd.pinned (OpenSpec.ofChange normalOrderWrong)

/-- 'bookplatelaw05.NormalJoins': WHATEVER THE INPUT: true; the input reads as it did. -/
def normalJoinsSpec : ChangeSpec := { name := "normalJoins", fn := fun _ => fun
  | [d1, d2] => { results := [.lit (.bool true)], args := [d1, d2] }
  | _ => none }
def normalJoinsRow : OpenClaim := { program := "ythcpdhniakpbaaadoor", sum := "ffe04462afdaf238538125400ec5a139c044c8555aa7436307e8eefc4a1cfc5d", func := "bookplate/bookplatelaw05.NormalJoins", spec := "normalJoins", inPlace := ["internal/bytealg.IndexByteString", "internal/bytealg.IndexString", "internal/abi.NoEscape"], unfollowed := true, recurses := true, named := ["unicode/utf8.first", "unicode/utf8.acceptRanges", "internal/bytealg.MaxLen"], apart := false, laid := [("unicode/utf8.acceptRanges", laid_unicode_utf8_acceptRanges), ("unicode/utf8.first", laid_unicode_utf8_first)] }
def NormalJoinsSaid : Prop := normalJoinsRow.holds Tryd.pinned (OpenSpec.ofChange normalJoinsSpec)

/-- ITS FALSE NEIGHBOUR: 'it returns false'. Refute it at one input. -/
def normalJoinsWrong : ChangeSpec := { name := "normalJoins", fn := fun _ => fun
  | [d1, d2] => { results := [.lit (.bool false)], args := [d1, d2] }
  | _ => none }
def NormalJoinsWrongFalsely : Prop := normalJoinsRow.holds Tryd.pinned (OpenSpec.ofChange normalJoinsWrong)

/-- 'bookplatelaw05.NormalStrips': WHATEVER THE INPUT: true; the input reads as it did. -/
def normalStripsSpec : ChangeSpec := { name := "normalStrips", fn := fun _ => fun
  | [d1, d2] => { results := [.lit (.bool true)], args := [d1, d2] }
  | _ => none }
def normalStripsRow : OpenClaim := { program := "ythcpdhniakpbaaadoor", sum := "ffe04462afdaf238538125400ec5a139c044c8555aa7436307e8eefc4a1cfc5d", func := "bookplate/bookplatelaw05.NormalStrips", spec := "normalStrips", inPlace := ["internal/bytealg.IndexByteString", "internal/bytealg.IndexString", "internal/abi.NoEscape"], unfollowed := true, recurses := true, named := ["unicode/utf8.first", "unicode/utf8.acceptRanges", "internal/bytealg.MaxLen"], apart := false, laid := [("unicode/utf8.acceptRanges", laid_unicode_utf8_acceptRanges), ("unicode/utf8.first", laid_unicode_utf8_first)] }
def NormalStripsSaid : Prop := normalStripsRow.holds Tryd.pinned (OpenSpec.ofChange normalStripsSpec)

/-- ITS FALSE NEIGHBOUR: 'it returns false'. Refute it at one input. -/
def normalStripsWrong : ChangeSpec := { name := "normalStrips", fn := fun _ => fun
  | [d1, d2] => { results := [.lit (.bool false)], args := [d1, d2] }
  | _ => none }
def NormalStripsWrongFalsely : Prop := normalStripsRow.holds Tryd.pinned (OpenSpec.ofChange normalStripsWrong)

/-- 'bookplatelaw05.NormalLetters': WHATEVER THE INPUT: true; the input reads as it did. -/
def normalLettersSpec : ChangeSpec := { name := "normalLetters", fn := fun _ => fun
  | [d] => { results := [.lit (.bool true)], args := [d] }
  | _ => none }
def normalLettersRow : OpenClaim := { program := "ythcpdhniakpbaaadoor", sum := "ffe04462afdaf238538125400ec5a139c044c8555aa7436307e8eefc4a1cfc5d", func := "bookplate/bookplatelaw05.NormalLetters", spec := "normalLetters", inPlace := ["internal/bytealg.IndexByteString", "internal/bytealg.IndexString", "internal/abi.NoEscape"], unfollowed := true, recurses := true, named := ["unicode/utf8.first", "unicode/utf8.acceptRanges", "internal/bytealg.MaxLen"], apart := false, laid := [("unicode/utf8.acceptRanges", laid_unicode_utf8_acceptRanges), ("unicode/utf8.first", laid_unicode_utf8_first)] }
def NormalLettersSaid : Prop := normalLettersRow.holds Tryd.pinned (OpenSpec.ofChange normalLettersSpec)

/-- ITS FALSE NEIGHBOUR: 'it returns false'. Refute it at one input. -/
def normalLettersWrong : ChangeSpec := { name := "normalLetters", fn := fun _ => fun
  | [d] => { results := [.lit (.bool false)], args := [d] }
  | _ => none }
def NormalLettersWrongFalsely : Prop := normalLettersRow.holds Tryd.pinned (OpenSpec.ofChange normalLettersWrong)

/- THE SECOND FORM. 'bulk': how many values and letters a reading holds, each counted each time it is reached (what is shared counts as often as it is met; a slice's spare places count too). A statement '..UptoSaid' is the law's where the arguments, and the package variables that the reading takes, are together of bulk at most 1048576: NARROWER than '..Said'. Prove '..Said' where nothing that the law and all that it calls make is longer than what came in: it says more and counts as full. Else prove '..UptoSaid'. A law counts once. -/
mutual
def uptoBulk {H : Type} : DataW H → Nat
  | .lit (.string bytes) => bytes.length + 1
  | .lit _ => 1
  | .nil => 1
  | .ptr d => uptoBulk d + 1
  | .slice elems spare => uptoBulkAll elems + uptoBulkAll spare + 1
  | .agg parts => uptoBulkAll parts + 1
  | .iface _ d => uptoBulk d + 1
  | .map entries => uptoBulkEntries entries + 1
  | .held _ => 1
def uptoBulkAll {H : Type} : List (DataW H) → Nat
  | [] => 0
  | d :: r => uptoBulk d + uptoBulkAll r
def uptoBulkEntries {H : Type} : List (Lit × DataW H) → Nat
  | [] => 0
  | x :: r => uptoBulkEntry x + uptoBulkEntries r
def uptoBulkEntry {H : Type} : Lit × DataW H → Nat
  | (.string bytes, d) => bytes.length + uptoBulk d + 1
  | (_, d) => uptoBulk d + 1
 end
def uptoSmall : (H : Type) → List (DataW H) → Bool := fun _ ds => decide (uptoBulkAll ds ≤ 1048576)
def OpenSpec.upto (s : _root_.Go.ChangeSpec) : _root_.Go.OpenSpec := { _root_.Go.OpenSpec.ofChange s with cond := some uptoSmall }

/-- 'bookplatelaw07.TranslitTo', WHERE WHAT IT READS IS OF BULK AT MOST 1048576: true; the input reads as it did. -/
def translitToUptoRow : OpenClaim := { program := "ythcpdhniakpbaaadoor", sum := "ffe04462afdaf238538125400ec5a139c044c8555aa7436307e8eefc4a1cfc5d", func := "bookplate/bookplatelaw07.TranslitTo", spec := "translitTo", inPlace := ["internal/bytealg.IndexByteString", "internal/bytealg.IndexString", "internal/abi.NoEscape"], unfollowed := true, recurses := true, named := ["strings.asciiSpace", "unicode.White_Space", "unicode/utf8.first", "unicode/utf8.acceptRanges", "internal/bytealg.MaxLen"], apart := false, laid := [("unicode/utf8.acceptRanges", laid_unicode_utf8_acceptRanges), ("unicode.White_Space", laid_unicode_White_Space), ("strings.asciiSpace", laid_strings_asciiSpace), ("unicode/utf8.first", laid_unicode_utf8_first)], narrowed := true }
def TranslitToUptoSaid : Prop := translitToUptoRow.holds Tryd.pinned (OpenSpec.upto translitToSpec)

/-- 'bookplatelaw07.TranslitRound', WHERE WHAT IT READS IS OF BULK AT MOST 1048576: true; the input reads as it did. -/
def translitRoundUptoRow : OpenClaim := { program := "ythcpdhniakpbaaadoor", sum := "ffe04462afdaf238538125400ec5a139c044c8555aa7436307e8eefc4a1cfc5d", func := "bookplate/bookplatelaw07.TranslitRound", spec := "translitRound", inPlace := ["internal/bytealg.IndexByteString", "internal/bytealg.IndexString", "internal/abi.NoEscape"], unfollowed := true, recurses := true, named := ["strings.asciiSpace", "unicode.White_Space", "unicode/utf8.first", "unicode/utf8.acceptRanges", "internal/bytealg.MaxLen"], apart := false, laid := [("unicode/utf8.acceptRanges", laid_unicode_utf8_acceptRanges), ("unicode.White_Space", laid_unicode_White_Space), ("strings.asciiSpace", laid_strings_asciiSpace), ("unicode/utf8.first", laid_unicode_utf8_first)], narrowed := true }
def TranslitRoundUptoSaid : Prop := translitRoundUptoRow.holds Tryd.pinned (OpenSpec.upto translitRoundSpec)

/-- 'bookplatelaw07.TranslitLongest', WHERE WHAT IT READS IS OF BULK AT MOST 1048576: true; the input reads as it did. -/
def translitLongestUptoRow : OpenClaim := { program := "ythcpdhniakpbaaadoor", sum := "ffe04462afdaf238538125400ec5a139c044c8555aa7436307e8eefc4a1cfc5d", func := "bookplate/bookplatelaw07.TranslitLongest", spec := "translitLongest", inPlace := ["internal/bytealg.IndexByteString", "internal/bytealg.IndexString", "internal/abi.NoEscape"], unfollowed := true, recurses := true, named := ["strings.asciiSpace", "unicode.White_Space", "unicode/utf8.first", "unicode/utf8.acceptRanges", "internal/bytealg.MaxLen"], apart := false, laid := [("unicode/utf8.acceptRanges", laid_unicode_utf8_acceptRanges), ("unicode.White_Space", laid_unicode_White_Space), ("strings.asciiSpace", laid_strings_asciiSpace), ("unicode/utf8.first", laid_unicode_utf8_first)], narrowed := true }
def TranslitLongestUptoSaid : Prop := translitLongestUptoRow.holds Tryd.pinned (OpenSpec.upto translitLongestSpec)

/-- 'bookplatelaw07.TranslitJoins', WHERE WHAT IT READS IS OF BULK AT MOST 1048576: true; the input reads as it did. -/
def translitJoinsUptoRow : OpenClaim := { program := "ythcpdhniakpbaaadoor", sum := "ffe04462afdaf238538125400ec5a139c044c8555aa7436307e8eefc4a1cfc5d", func := "bookplate/bookplatelaw07.TranslitJoins", spec := "translitJoins", inPlace := ["internal/bytealg.IndexByteString", "internal/bytealg.IndexString", "internal/abi.NoEscape"], unfollowed := true, recurses := true, named := ["strings.asciiSpace", "unicode.White_Space", "unicode/utf8.first", "unicode/utf8.acceptRanges", "internal/bytealg.MaxLen"], apart := false, laid := [("unicode/utf8.acceptRanges", laid_unicode_utf8_acceptRanges), ("unicode.White_Space", laid_unicode_White_Space), ("strings.asciiSpace", laid_strings_asciiSpace), ("unicode/utf8.first", laid_unicode_utf8_first)], narrowed := true }
def TranslitJoinsUptoSaid : Prop := translitJoinsUptoRow.holds Tryd.pinned (OpenSpec.upto translitJoinsSpec)

/-- 'bookplatelaw07.TranslitTables', WHERE WHAT IT READS IS OF BULK AT MOST 1048576: true; the input reads as it did. -/
def translitTablesUptoRow : OpenClaim := { program := "ythcpdhniakpbaaadoor", sum := "ffe04462afdaf238538125400ec5a139c044c8555aa7436307e8eefc4a1cfc5d", func := "bookplate/bookplatelaw07.TranslitTables", spec := "translitTables", inPlace := ["internal/bytealg.IndexByteString", "internal/bytealg.IndexString", "internal/abi.NoEscape"], unfollowed := true, recurses := true, named := ["strings.asciiSpace", "unicode.White_Space", "unicode/utf8.first", "unicode/utf8.acceptRanges", "internal/bytealg.MaxLen"], apart := false, laid := [("unicode/utf8.acceptRanges", laid_unicode_utf8_acceptRanges), ("unicode.White_Space", laid_unicode_White_Space), ("strings.asciiSpace", laid_strings_asciiSpace), ("unicode/utf8.first", laid_unicode_utf8_first)], narrowed := true }
def TranslitTablesUptoSaid : Prop := translitTablesUptoRow.holds Tryd.pinned (OpenSpec.upto translitTablesSpec)

/-- 'bookplatelaw07.TranslitCyrillic', WHERE WHAT IT READS IS OF BULK AT MOST 1048576: true; the input reads as it did. -/
def translitCyrillicUptoRow : OpenClaim := { program := "ythcpdhniakpbaaadoor", sum := "ffe04462afdaf238538125400ec5a139c044c8555aa7436307e8eefc4a1cfc5d", func := "bookplate/bookplatelaw07.TranslitCyrillic", spec := "translitCyrillic", inPlace := ["internal/bytealg.IndexByteString", "internal/bytealg.IndexString", "internal/abi.NoEscape"], unfollowed := true, recurses := true, named := ["strings.asciiSpace", "unicode.White_Space", "unicode/utf8.first", "unicode/utf8.acceptRanges", "internal/bytealg.MaxLen"], apart := false, laid := [("unicode/utf8.acceptRanges", laid_unicode_utf8_acceptRanges), ("unicode.White_Space", laid_unicode_White_Space), ("strings.asciiSpace", laid_strings_asciiSpace), ("unicode/utf8.first", laid_unicode_utf8_first)], narrowed := true }
def TranslitCyrillicUptoSaid : Prop := translitCyrillicUptoRow.holds Tryd.pinned (OpenSpec.upto translitCyrillicSpec)

/-- 'bookplatelaw07.TranslitStays', WHERE WHAT IT READS IS OF BULK AT MOST 1048576: true; the input reads as it did. -/
def translitStaysUptoRow : OpenClaim := { program := "ythcpdhniakpbaaadoor", sum := "ffe04462afdaf238538125400ec5a139c044c8555aa7436307e8eefc4a1cfc5d", func := "bookplate/bookplatelaw07.TranslitStays", spec := "translitStays", inPlace := ["internal/bytealg.IndexByteString", "internal/bytealg.IndexString", "internal/abi.NoEscape"], unfollowed := true, recurses := true, named := ["strings.asciiSpace", "unicode.White_Space", "unicode/utf8.first", "unicode/utf8.acceptRanges", "internal/bytealg.MaxLen"], apart := false, laid := [("unicode/utf8.acceptRanges", laid_unicode_utf8_acceptRanges), ("unicode.White_Space", laid_unicode_White_Space), ("strings.asciiSpace", laid_strings_asciiSpace), ("unicode/utf8.first", laid_unicode_utf8_first)], narrowed := true }
def TranslitStaysUptoSaid : Prop := translitStaysUptoRow.holds Tryd.pinned (OpenSpec.upto translitStaysSpec)

/-- 'bookplatelaw05.NormalForms', WHERE WHAT IT READS IS OF BULK AT MOST 1048576: true; the input reads as it did. -/
def normalFormsUptoRow : OpenClaim := { program := "ythcpdhniakpbaaadoor", sum := "ffe04462afdaf238538125400ec5a139c044c8555aa7436307e8eefc4a1cfc5d", func := "bookplate/bookplatelaw05.NormalForms", spec := "normalForms", inPlace := ["internal/bytealg.IndexByteString", "internal/bytealg.IndexString", "internal/abi.NoEscape"], unfollowed := true, recurses := true, named := ["unicode/utf8.first", "unicode/utf8.acceptRanges", "internal/bytealg.MaxLen"], apart := false, laid := [("unicode/utf8.acceptRanges", laid_unicode_utf8_acceptRanges), ("unicode/utf8.first", laid_unicode_utf8_first)], narrowed := true }
def NormalFormsUptoSaid : Prop := normalFormsUptoRow.holds Tryd.pinned (OpenSpec.upto normalFormsSpec)

/-- 'bookplatelaw05.NormalTwice', WHERE WHAT IT READS IS OF BULK AT MOST 1048576: true; the input reads as it did. -/
def normalTwiceUptoRow : OpenClaim := { program := "ythcpdhniakpbaaadoor", sum := "ffe04462afdaf238538125400ec5a139c044c8555aa7436307e8eefc4a1cfc5d", func := "bookplate/bookplatelaw05.NormalTwice", spec := "normalTwice", inPlace := ["internal/bytealg.IndexByteString", "internal/bytealg.IndexString", "internal/abi.NoEscape"], unfollowed := true, recurses := true, named := ["unicode/utf8.first", "unicode/utf8.acceptRanges", "internal/bytealg.MaxLen"], apart := false, laid := [("unicode/utf8.acceptRanges", laid_unicode_utf8_acceptRanges), ("unicode/utf8.first", laid_unicode_utf8_first)], narrowed := true }
def NormalTwiceUptoSaid : Prop := normalTwiceUptoRow.holds Tryd.pinned (OpenSpec.upto normalTwiceSpec)

/-- 'bookplatelaw05.NormalEqual', WHERE WHAT IT READS IS OF BULK AT MOST 1048576: true; the input reads as it did. -/
def normalEqualUptoRow : OpenClaim := { program := "ythcpdhniakpbaaadoor", sum := "ffe04462afdaf238538125400ec5a139c044c8555aa7436307e8eefc4a1cfc5d", func := "bookplate/bookplatelaw05.NormalEqual", spec := "normalEqual", inPlace := ["internal/bytealg.IndexByteString", "internal/bytealg.IndexString", "internal/abi.NoEscape"], unfollowed := true, recurses := true, named := ["unicode/utf8.first", "unicode/utf8.acceptRanges", "internal/bytealg.MaxLen"], apart := false, laid := [("unicode/utf8.acceptRanges", laid_unicode_utf8_acceptRanges), ("unicode/utf8.first", laid_unicode_utf8_first)], narrowed := true }
def NormalEqualUptoSaid : Prop := normalEqualUptoRow.holds Tryd.pinned (OpenSpec.upto normalEqualSpec)

/-- 'bookplatelaw05.NormalOrder', WHERE WHAT IT READS IS OF BULK AT MOST 1048576: true; the input reads as it did. -/
def normalOrderUptoRow : OpenClaim := { program := "ythcpdhniakpbaaadoor", sum := "ffe04462afdaf238538125400ec5a139c044c8555aa7436307e8eefc4a1cfc5d", func := "bookplate/bookplatelaw05.NormalOrder", spec := "normalOrder", inPlace := ["internal/bytealg.IndexByteString", "internal/bytealg.IndexString", "internal/abi.NoEscape"], unfollowed := true, recurses := true, named := ["unicode/utf8.first", "unicode/utf8.acceptRanges", "internal/bytealg.MaxLen"], apart := false, laid := [("unicode/utf8.acceptRanges", laid_unicode_utf8_acceptRanges), ("unicode/utf8.first", laid_unicode_utf8_first)], narrowed := true }
def NormalOrderUptoSaid : Prop := normalOrderUptoRow.holds Tryd.pinned (OpenSpec.upto normalOrderSpec)

/-- 'bookplatelaw05.NormalJoins', WHERE WHAT IT READS IS OF BULK AT MOST 1048576: true; the input reads as it did. -/
def normalJoinsUptoRow : OpenClaim := { program := "ythcpdhniakpbaaadoor", sum := "ffe04462afdaf238538125400ec5a139c044c8555aa7436307e8eefc4a1cfc5d", func := "bookplate/bookplatelaw05.NormalJoins", spec := "normalJoins", inPlace := ["internal/bytealg.IndexByteString", "internal/bytealg.IndexString", "internal/abi.NoEscape"], unfollowed := true, recurses := true, named := ["unicode/utf8.first", "unicode/utf8.acceptRanges", "internal/bytealg.MaxLen"], apart := false, laid := [("unicode/utf8.acceptRanges", laid_unicode_utf8_acceptRanges), ("unicode/utf8.first", laid_unicode_utf8_first)], narrowed := true }
def NormalJoinsUptoSaid : Prop := normalJoinsUptoRow.holds Tryd.pinned (OpenSpec.upto normalJoinsSpec)

/-- 'bookplatelaw05.NormalStrips', WHERE WHAT IT READS IS OF BULK AT MOST 1048576: true; the input reads as it did. -/
def normalStripsUptoRow : OpenClaim := { program := "ythcpdhniakpbaaadoor", sum := "ffe04462afdaf238538125400ec5a139c044c8555aa7436307e8eefc4a1cfc5d", func := "bookplate/bookplatelaw05.NormalStrips", spec := "normalStrips", inPlace := ["internal/bytealg.IndexByteString", "internal/bytealg.IndexString", "internal/abi.NoEscape"], unfollowed := true, recurses := true, named := ["unicode/utf8.first", "unicode/utf8.acceptRanges", "internal/bytealg.MaxLen"], apart := false, laid := [("unicode/utf8.acceptRanges", laid_unicode_utf8_acceptRanges), ("unicode/utf8.first", laid_unicode_utf8_first)], narrowed := true }
def NormalStripsUptoSaid : Prop := normalStripsUptoRow.holds Tryd.pinned (OpenSpec.upto normalStripsSpec)

/-- 'bookplatelaw05.NormalLetters', WHERE WHAT IT READS IS OF BULK AT MOST 1048576: true; the input reads as it did. -/
def normalLettersUptoRow : OpenClaim := { program := "ythcpdhniakpbaaadoor", sum := "ffe04462afdaf238538125400ec5a139c044c8555aa7436307e8eefc4a1cfc5d", func := "bookplate/bookplatelaw05.NormalLetters", spec := "normalLetters", inPlace := ["internal/bytealg.IndexByteString", "internal/bytealg.IndexString", "internal/abi.NoEscape"], unfollowed := true, recurses := true, named := ["unicode/utf8.first", "unicode/utf8.acceptRanges", "internal/bytealg.MaxLen"], apart := false, laid := [("unicode/utf8.acceptRanges", laid_unicode_utf8_acceptRanges), ("unicode/utf8.first", laid_unicode_utf8_first)], narrowed := true }
def NormalLettersUptoSaid : Prop := normalLettersUptoRow.holds Tryd.pinned (OpenSpec.upto normalLettersSpec)

end Rows
end Go.Proofs.YthcpdhniakpbaaaDoor
