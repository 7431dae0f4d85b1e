/-
  DERIVED. GIVEN WITH THE SEED: THE CARDS: each row of YthcpdhniakpbaaaDoorRows.lean that lists a variable, with what it lists TIED to the program's text (the seventh form; the later family's looks); each row that meets fmt, with fmt's text TOLD by the authors' own Lean function (tested against real Go, not proved from fmt's source: count such statements apart). THE CARD IS WHAT COUNTS. Prove the row's statement (the work); the ties are given (YthcpdhniakpbaaaDoorTie.lean); close each card by the builder's one call (the guide's Derived/Test/ToyasCard.lean, 'card_holds'). Laid BY PROGRAM, IN A SANDBOX (cutbox-door.mjs). By AI agents, Wed Nov 11 2026. No macro, syntax, notation, axiom, sorry.
-/
import Derived.Test.YthcpdhniakpbaaaDoorRows
import GoSem.ClaimSeven
namespace Go.Proofs.YthcpdhniakpbaaaDoor
namespace Rows

/-- THE TIED CARD OF 'bookplatelaw07.TranslitTo'. -/
def translitToCard : Claim7 := { stood := { row := translitToRow, standIns := [], harness := (true, "67c479ae0aa437fa6a3dd4b5f5b54a659b5722683b9372ec4f63c4692d844e6a"), looks := false }, kinds := [], alts := [], laidByText := true, laidKinds := [.data, .listed, .data, .pinned], laidTests := true, laidLooks := .later }
def TranslitToCardSaid : Prop := Claim7.holds Tryd.pinned (.plain (OpenSpec.ofChange translitToSpec)) translitToCard

/-- THE TIED CARD OF 'bookplatelaw07.TranslitRound'. -/
def translitRoundCard : Claim7 := { stood := { row := translitRoundRow, standIns := [], harness := (true, "67c479ae0aa437fa6a3dd4b5f5b54a659b5722683b9372ec4f63c4692d844e6a"), looks := false }, kinds := [], alts := [], laidByText := true, laidKinds := [.data, .listed, .data, .pinned], laidTests := true, laidLooks := .later }
def TranslitRoundCardSaid : Prop := Claim7.holds Tryd.pinned (.plain (OpenSpec.ofChange translitRoundSpec)) translitRoundCard

/-- THE TIED CARD OF 'bookplatelaw07.TranslitLongest'. -/
def translitLongestCard : Claim7 := { stood := { row := translitLongestRow, standIns := [], harness := (true, "67c479ae0aa437fa6a3dd4b5f5b54a659b5722683b9372ec4f63c4692d844e6a"), looks := false }, kinds := [], alts := [], laidByText := true, laidKinds := [.data, .listed, .data, .pinned], laidTests := true, laidLooks := .later }
def TranslitLongestCardSaid : Prop := Claim7.holds Tryd.pinned (.plain (OpenSpec.ofChange translitLongestSpec)) translitLongestCard

/-- THE TIED CARD OF 'bookplatelaw07.TranslitJoins'. -/
def translitJoinsCard : Claim7 := { stood := { row := translitJoinsRow, standIns := [], harness := (true, "67c479ae0aa437fa6a3dd4b5f5b54a659b5722683b9372ec4f63c4692d844e6a"), looks := false }, kinds := [], alts := [], laidByText := true, laidKinds := [.data, .listed, .data, .pinned], laidTests := true, laidLooks := .later }
def TranslitJoinsCardSaid : Prop := Claim7.holds Tryd.pinned (.plain (OpenSpec.ofChange translitJoinsSpec)) translitJoinsCard

/-- THE TIED CARD OF 'bookplatelaw07.TranslitTables'. -/
def translitTablesCard : Claim7 := { stood := { row := translitTablesRow, standIns := [], harness := (true, "67c479ae0aa437fa6a3dd4b5f5b54a659b5722683b9372ec4f63c4692d844e6a"), looks := false }, kinds := [], alts := [], laidByText := true, laidKinds := [.data, .listed, .data, .pinned], laidTests := true, laidLooks := .later }
def TranslitTablesCardSaid : Prop := Claim7.holds Tryd.pinned (.plain (OpenSpec.ofChange translitTablesSpec)) translitTablesCard

/-- THE TIED CARD OF 'bookplatelaw07.TranslitCyrillic'. -/
def translitCyrillicCard : Claim7 := { stood := { row := translitCyrillicRow, standIns := [], harness := (true, "67c479ae0aa437fa6a3dd4b5f5b54a659b5722683b9372ec4f63c4692d844e6a"), looks := false }, kinds := [], alts := [], laidByText := true, laidKinds := [.data, .listed, .data, .pinned], laidTests := true, laidLooks := .later }
def TranslitCyrillicCardSaid : Prop := Claim7.holds Tryd.pinned (.plain (OpenSpec.ofChange translitCyrillicSpec)) translitCyrillicCard

/-- THE TIED CARD OF 'bookplatelaw07.TranslitStays'. -/
def translitStaysCard : Claim7 := { stood := { row := translitStaysRow, standIns := [], harness := (true, "67c479ae0aa437fa6a3dd4b5f5b54a659b5722683b9372ec4f63c4692d844e6a"), looks := false }, kinds := [], alts := [], laidByText := true, laidKinds := [.data, .listed, .data, .pinned], laidTests := true, laidLooks := .later }
def TranslitStaysCardSaid : Prop := Claim7.holds Tryd.pinned (.plain (OpenSpec.ofChange translitStaysSpec)) translitStaysCard

/-- THE TIED CARD OF 'bookplatelaw05.NormalForms'. -/
def normalFormsCard : Claim7 := { stood := { row := normalFormsRow, standIns := [], harness := (true, "67c479ae0aa437fa6a3dd4b5f5b54a659b5722683b9372ec4f63c4692d844e6a"), looks := false }, kinds := [], alts := [], laidByText := true, laidKinds := [.data, .pinned], laidTests := true, laidLooks := .later }
def NormalFormsCardSaid : Prop := Claim7.holds Tryd.pinned (.plain (OpenSpec.ofChange normalFormsSpec)) normalFormsCard

/-- THE TIED CARD OF 'bookplatelaw05.NormalTwice'. -/
def normalTwiceCard : Claim7 := { stood := { row := normalTwiceRow, standIns := [], harness := (true, "67c479ae0aa437fa6a3dd4b5f5b54a659b5722683b9372ec4f63c4692d844e6a"), looks := false }, kinds := [], alts := [], laidByText := true, laidKinds := [.data, .pinned], laidTests := true, laidLooks := .later }
def NormalTwiceCardSaid : Prop := Claim7.holds Tryd.pinned (.plain (OpenSpec.ofChange normalTwiceSpec)) normalTwiceCard

/-- THE TIED CARD OF 'bookplatelaw05.NormalEqual'. -/
def normalEqualCard : Claim7 := { stood := { row := normalEqualRow, standIns := [], harness := (true, "67c479ae0aa437fa6a3dd4b5f5b54a659b5722683b9372ec4f63c4692d844e6a"), looks := false }, kinds := [], alts := [], laidByText := true, laidKinds := [.data, .pinned], laidTests := true, laidLooks := .later }
def NormalEqualCardSaid : Prop := Claim7.holds Tryd.pinned (.plain (OpenSpec.ofChange normalEqualSpec)) normalEqualCard

/-- THE TIED CARD OF 'bookplatelaw05.NormalOrder'. -/
def normalOrderCard : Claim7 := { stood := { row := normalOrderRow, standIns := [], harness := (true, "67c479ae0aa437fa6a3dd4b5f5b54a659b5722683b9372ec4f63c4692d844e6a"), looks := false }, kinds := [], alts := [], laidByText := true, laidKinds := [.data, .pinned], laidTests := true, laidLooks := .later }
def NormalOrderCardSaid : Prop := Claim7.holds Tryd.pinned (.plain (OpenSpec.ofChange normalOrderSpec)) normalOrderCard

/-- THE TIED CARD OF 'bookplatelaw05.NormalJoins'. -/
def normalJoinsCard : Claim7 := { stood := { row := normalJoinsRow, standIns := [], harness := (true, "67c479ae0aa437fa6a3dd4b5f5b54a659b5722683b9372ec4f63c4692d844e6a"), looks := false }, kinds := [], alts := [], laidByText := true, laidKinds := [.data, .pinned], laidTests := true, laidLooks := .later }
def NormalJoinsCardSaid : Prop := Claim7.holds Tryd.pinned (.plain (OpenSpec.ofChange normalJoinsSpec)) normalJoinsCard

/-- THE TIED CARD OF 'bookplatelaw05.NormalStrips'. -/
def normalStripsCard : Claim7 := { stood := { row := normalStripsRow, standIns := [], harness := (true, "67c479ae0aa437fa6a3dd4b5f5b54a659b5722683b9372ec4f63c4692d844e6a"), looks := false }, kinds := [], alts := [], laidByText := true, laidKinds := [.data, .pinned], laidTests := true, laidLooks := .later }
def NormalStripsCardSaid : Prop := Claim7.holds Tryd.pinned (.plain (OpenSpec.ofChange normalStripsSpec)) normalStripsCard

/-- THE TIED CARD OF 'bookplatelaw05.NormalLetters'. -/
def normalLettersCard : Claim7 := { stood := { row := normalLettersRow, standIns := [], harness := (true, "67c479ae0aa437fa6a3dd4b5f5b54a659b5722683b9372ec4f63c4692d844e6a"), looks := false }, kinds := [], alts := [], laidByText := true, laidKinds := [.data, .pinned], laidTests := true, laidLooks := .later }
def NormalLettersCardSaid : Prop := Claim7.holds Tryd.pinned (.plain (OpenSpec.ofChange normalLettersSpec)) normalLettersCard

/-- THE SECOND FORM's CARD OF 'bookplatelaw07.TranslitTo'. -/
def translitToUptoCard : Claim7 := { stood := { row := translitToUptoRow, standIns := [], harness := (true, "67c479ae0aa437fa6a3dd4b5f5b54a659b5722683b9372ec4f63c4692d844e6a"), looks := false }, kinds := [], alts := [], laidByText := true, laidKinds := [.data, .listed, .data, .pinned], laidTests := true, laidLooks := .later }
def TranslitToUptoCardSaid : Prop := Claim7.holds Tryd.pinned (.plain (OpenSpec.upto translitToSpec)) translitToUptoCard

/-- THE SECOND FORM's CARD OF 'bookplatelaw07.TranslitRound'. -/
def translitRoundUptoCard : Claim7 := { stood := { row := translitRoundUptoRow, standIns := [], harness := (true, "67c479ae0aa437fa6a3dd4b5f5b54a659b5722683b9372ec4f63c4692d844e6a"), looks := false }, kinds := [], alts := [], laidByText := true, laidKinds := [.data, .listed, .data, .pinned], laidTests := true, laidLooks := .later }
def TranslitRoundUptoCardSaid : Prop := Claim7.holds Tryd.pinned (.plain (OpenSpec.upto translitRoundSpec)) translitRoundUptoCard

/-- THE SECOND FORM's CARD OF 'bookplatelaw07.TranslitLongest'. -/
def translitLongestUptoCard : Claim7 := { stood := { row := translitLongestUptoRow, standIns := [], harness := (true, "67c479ae0aa437fa6a3dd4b5f5b54a659b5722683b9372ec4f63c4692d844e6a"), looks := false }, kinds := [], alts := [], laidByText := true, laidKinds := [.data, .listed, .data, .pinned], laidTests := true, laidLooks := .later }
def TranslitLongestUptoCardSaid : Prop := Claim7.holds Tryd.pinned (.plain (OpenSpec.upto translitLongestSpec)) translitLongestUptoCard

/-- THE SECOND FORM's CARD OF 'bookplatelaw07.TranslitJoins'. -/
def translitJoinsUptoCard : Claim7 := { stood := { row := translitJoinsUptoRow, standIns := [], harness := (true, "67c479ae0aa437fa6a3dd4b5f5b54a659b5722683b9372ec4f63c4692d844e6a"), looks := false }, kinds := [], alts := [], laidByText := true, laidKinds := [.data, .listed, .data, .pinned], laidTests := true, laidLooks := .later }
def TranslitJoinsUptoCardSaid : Prop := Claim7.holds Tryd.pinned (.plain (OpenSpec.upto translitJoinsSpec)) translitJoinsUptoCard

/-- THE SECOND FORM's CARD OF 'bookplatelaw07.TranslitTables'. -/
def translitTablesUptoCard : Claim7 := { stood := { row := translitTablesUptoRow, standIns := [], harness := (true, "67c479ae0aa437fa6a3dd4b5f5b54a659b5722683b9372ec4f63c4692d844e6a"), looks := false }, kinds := [], alts := [], laidByText := true, laidKinds := [.data, .listed, .data, .pinned], laidTests := true, laidLooks := .later }
def TranslitTablesUptoCardSaid : Prop := Claim7.holds Tryd.pinned (.plain (OpenSpec.upto translitTablesSpec)) translitTablesUptoCard

/-- THE SECOND FORM's CARD OF 'bookplatelaw07.TranslitCyrillic'. -/
def translitCyrillicUptoCard : Claim7 := { stood := { row := translitCyrillicUptoRow, standIns := [], harness := (true, "67c479ae0aa437fa6a3dd4b5f5b54a659b5722683b9372ec4f63c4692d844e6a"), looks := false }, kinds := [], alts := [], laidByText := true, laidKinds := [.data, .listed, .data, .pinned], laidTests := true, laidLooks := .later }
def TranslitCyrillicUptoCardSaid : Prop := Claim7.holds Tryd.pinned (.plain (OpenSpec.upto translitCyrillicSpec)) translitCyrillicUptoCard

/-- THE SECOND FORM's CARD OF 'bookplatelaw07.TranslitStays'. -/
def translitStaysUptoCard : Claim7 := { stood := { row := translitStaysUptoRow, standIns := [], harness := (true, "67c479ae0aa437fa6a3dd4b5f5b54a659b5722683b9372ec4f63c4692d844e6a"), looks := false }, kinds := [], alts := [], laidByText := true, laidKinds := [.data, .listed, .data, .pinned], laidTests := true, laidLooks := .later }
def TranslitStaysUptoCardSaid : Prop := Claim7.holds Tryd.pinned (.plain (OpenSpec.upto translitStaysSpec)) translitStaysUptoCard

/-- THE SECOND FORM's CARD OF 'bookplatelaw05.NormalForms'. -/
def normalFormsUptoCard : Claim7 := { stood := { row := normalFormsUptoRow, standIns := [], harness := (true, "67c479ae0aa437fa6a3dd4b5f5b54a659b5722683b9372ec4f63c4692d844e6a"), looks := false }, kinds := [], alts := [], laidByText := true, laidKinds := [.data, .pinned], laidTests := true, laidLooks := .later }
def NormalFormsUptoCardSaid : Prop := Claim7.holds Tryd.pinned (.plain (OpenSpec.upto normalFormsSpec)) normalFormsUptoCard

/-- THE SECOND FORM's CARD OF 'bookplatelaw05.NormalTwice'. -/
def normalTwiceUptoCard : Claim7 := { stood := { row := normalTwiceUptoRow, standIns := [], harness := (true, "67c479ae0aa437fa6a3dd4b5f5b54a659b5722683b9372ec4f63c4692d844e6a"), looks := false }, kinds := [], alts := [], laidByText := true, laidKinds := [.data, .pinned], laidTests := true, laidLooks := .later }
def NormalTwiceUptoCardSaid : Prop := Claim7.holds Tryd.pinned (.plain (OpenSpec.upto normalTwiceSpec)) normalTwiceUptoCard

/-- THE SECOND FORM's CARD OF 'bookplatelaw05.NormalEqual'. -/
def normalEqualUptoCard : Claim7 := { stood := { row := normalEqualUptoRow, standIns := [], harness := (true, "67c479ae0aa437fa6a3dd4b5f5b54a659b5722683b9372ec4f63c4692d844e6a"), looks := false }, kinds := [], alts := [], laidByText := true, laidKinds := [.data, .pinned], laidTests := true, laidLooks := .later }
def NormalEqualUptoCardSaid : Prop := Claim7.holds Tryd.pinned (.plain (OpenSpec.upto normalEqualSpec)) normalEqualUptoCard

/-- THE SECOND FORM's CARD OF 'bookplatelaw05.NormalOrder'. -/
def normalOrderUptoCard : Claim7 := { stood := { row := normalOrderUptoRow, standIns := [], harness := (true, "67c479ae0aa437fa6a3dd4b5f5b54a659b5722683b9372ec4f63c4692d844e6a"), looks := false }, kinds := [], alts := [], laidByText := true, laidKinds := [.data, .pinned], laidTests := true, laidLooks := .later }
def NormalOrderUptoCardSaid : Prop := Claim7.holds Tryd.pinned (.plain (OpenSpec.upto normalOrderSpec)) normalOrderUptoCard

/-- THE SECOND FORM's CARD OF 'bookplatelaw05.NormalJoins'. -/
def normalJoinsUptoCard : Claim7 := { stood := { row := normalJoinsUptoRow, standIns := [], harness := (true, "67c479ae0aa437fa6a3dd4b5f5b54a659b5722683b9372ec4f63c4692d844e6a"), looks := false }, kinds := [], alts := [], laidByText := true, laidKinds := [.data, .pinned], laidTests := true, laidLooks := .later }
def NormalJoinsUptoCardSaid : Prop := Claim7.holds Tryd.pinned (.plain (OpenSpec.upto normalJoinsSpec)) normalJoinsUptoCard

/-- THE SECOND FORM's CARD OF 'bookplatelaw05.NormalStrips'. -/
def normalStripsUptoCard : Claim7 := { stood := { row := normalStripsUptoRow, standIns := [], harness := (true, "67c479ae0aa437fa6a3dd4b5f5b54a659b5722683b9372ec4f63c4692d844e6a"), looks := false }, kinds := [], alts := [], laidByText := true, laidKinds := [.data, .pinned], laidTests := true, laidLooks := .later }
def NormalStripsUptoCardSaid : Prop := Claim7.holds Tryd.pinned (.plain (OpenSpec.upto normalStripsSpec)) normalStripsUptoCard

/-- THE SECOND FORM's CARD OF 'bookplatelaw05.NormalLetters'. -/
def normalLettersUptoCard : Claim7 := { stood := { row := normalLettersUptoRow, standIns := [], harness := (true, "67c479ae0aa437fa6a3dd4b5f5b54a659b5722683b9372ec4f63c4692d844e6a"), looks := false }, kinds := [], alts := [], laidByText := true, laidKinds := [.data, .pinned], laidTests := true, laidLooks := .later }
def NormalLettersUptoCardSaid : Prop := Claim7.holds Tryd.pinned (.plain (OpenSpec.upto normalLettersSpec)) normalLettersUptoCard
end Rows
end Go.Proofs.YthcpdhniakpbaaaDoor
