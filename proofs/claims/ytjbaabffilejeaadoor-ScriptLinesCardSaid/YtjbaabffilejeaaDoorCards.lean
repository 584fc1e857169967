/-
  DERIVED. GIVEN WITH THE SEED: THE CARDS: each row of YtjbaabffilejeaaDoorRows.lean that lists a variable, with what it lists TIED to the program's text (the seventh form; the later family's looks); each row that meets fmt, with fmt's text TOLD by the authors' own Lean function (tested against real Go, not proved from fmt's source: count such statements apart). THE CARD IS WHAT COUNTS. Prove the row's statement (the work); the ties are given (YtjbaabffilejeaaDoorTie.lean); close each card by the builder's one call (the guide's Derived/Test/ToyasCard.lean, 'card_holds'). Laid BY PROGRAM, IN A SANDBOX (cutbox-door.mjs). By AI agents, Wed Nov 11 2026. No macro, syntax, notation, axiom, sorry.
-/
import Derived.Test.YtjbaabffilejeaaDoorRows
import GoSem.ClaimSeven
namespace Go.Proofs.YtjbaabffilejeaaDoor
namespace Rows

/-- THE TIED CARD OF 'cuirasslaw17.RecordShows'. -/
def recordShowsCard : Claim7 := { stood := { row := recordShowsRow, standIns := [], harness := (true, "1306b362bb4c59e4c34f40d4c2aa17520002762ccd333238a2f96d1e37958bf7"), looks := true }, kinds := [], alts := [], laidByText := true, laidKinds := [.data, .data, .data, .data, .sentinel, .sentinel, .pinned], laidTests := true, laidLooks := .later }
def RecordShowsCardSaid : Prop := Claim7.holds Tryd.pinned (.plain (OpenSpec.ofChange recordShowsSpec)) recordShowsCard

/-- THE TIED CARD OF 'cuirasslaw23.ScriptShows'. -/
def scriptShowsCard : Claim7 := { stood := { row := scriptShowsRow, standIns := [], harness := (true, "1306b362bb4c59e4c34f40d4c2aa17520002762ccd333238a2f96d1e37958bf7"), looks := true }, kinds := [], alts := [], laidByText := true, laidKinds := [.data, .data, .data, .data, .sentinel, .sentinel, .widerDeep, .widerDeep, .pinned], laidTests := true, laidLooks := .later }
def ScriptShowsCardSaid : Prop := Claim7.holds Tryd.pinned (.plain (OpenSpec.ofChange scriptShowsSpec)) scriptShowsCard

/-- THE TIED CARD OF 'cuirasslaw23.ScriptParses'. -/
def scriptParsesCard : Claim7 := { stood := { row := scriptParsesRow, standIns := [], harness := (true, "1306b362bb4c59e4c34f40d4c2aa17520002762ccd333238a2f96d1e37958bf7"), looks := true }, kinds := [], alts := [], laidByText := true, laidKinds := [.data, .data, .data, .data, .sentinel, .sentinel, .widerDeep, .widerDeep, .pinned], laidTests := true, laidLooks := .later }
def ScriptParsesCardSaid : Prop := Claim7.holds Tryd.pinned (.plain (OpenSpec.ofChange scriptParsesSpec)) scriptParsesCard

/-- THE TIED CARD OF 'cuirasslaw23.ScriptUnlike'. -/
def scriptUnlikeCard : Claim7 := { stood := { row := scriptUnlikeRow, standIns := [], harness := (true, "1306b362bb4c59e4c34f40d4c2aa17520002762ccd333238a2f96d1e37958bf7"), looks := true }, kinds := [], alts := [], laidByText := true, laidKinds := [.data, .data, .data, .data, .sentinel, .sentinel, .widerDeep, .widerDeep, .pinned], laidTests := true, laidLooks := .later }
def ScriptUnlikeCardSaid : Prop := Claim7.holds Tryd.pinned (.plain (OpenSpec.ofChange scriptUnlikeSpec)) scriptUnlikeCard

/-- THE TIED CARD OF 'cuirasslaw23.ScriptLines'. -/
def scriptLinesCard : Claim7 := { stood := { row := scriptLinesRow, standIns := [], harness := (true, "1306b362bb4c59e4c34f40d4c2aa17520002762ccd333238a2f96d1e37958bf7"), looks := true }, kinds := [], alts := [], laidByText := true, laidKinds := [.data, .data, .data, .data, .sentinel, .sentinel, .widerDeep, .widerDeep, .pinned], laidTests := true, laidLooks := .later }
def ScriptLinesCardSaid : Prop := Claim7.holds Tryd.pinned (.plain (OpenSpec.ofChange scriptLinesSpec)) scriptLinesCard

/-- THE SECOND FORM's CARD OF 'cuirasslaw17.RecordShows'. -/
def recordShowsUptoCard : Claim7 := { stood := { row := recordShowsUptoRow, standIns := [], harness := (true, "1306b362bb4c59e4c34f40d4c2aa17520002762ccd333238a2f96d1e37958bf7"), looks := true }, kinds := [], alts := [], laidByText := true, laidKinds := [.data, .data, .data, .data, .sentinel, .sentinel, .pinned], laidTests := true, laidLooks := .later }
def RecordShowsUptoCardSaid : Prop := Claim7.holds Tryd.pinned (.plain (OpenSpec.upto recordShowsSpec)) recordShowsUptoCard

/-- THE SECOND FORM's CARD OF 'cuirasslaw23.ScriptShows'. -/
def scriptShowsUptoCard : Claim7 := { stood := { row := scriptShowsUptoRow, standIns := [], harness := (true, "1306b362bb4c59e4c34f40d4c2aa17520002762ccd333238a2f96d1e37958bf7"), looks := true }, kinds := [], alts := [], laidByText := true, laidKinds := [.data, .data, .data, .data, .sentinel, .sentinel, .widerDeep, .widerDeep, .pinned], laidTests := true, laidLooks := .later }
def ScriptShowsUptoCardSaid : Prop := Claim7.holds Tryd.pinned (.plain (OpenSpec.upto scriptShowsSpec)) scriptShowsUptoCard

/-- THE SECOND FORM's CARD OF 'cuirasslaw23.ScriptParses'. -/
def scriptParsesUptoCard : Claim7 := { stood := { row := scriptParsesUptoRow, standIns := [], harness := (true, "1306b362bb4c59e4c34f40d4c2aa17520002762ccd333238a2f96d1e37958bf7"), looks := true }, kinds := [], alts := [], laidByText := true, laidKinds := [.data, .data, .data, .data, .sentinel, .sentinel, .widerDeep, .widerDeep, .pinned], laidTests := true, laidLooks := .later }
def ScriptParsesUptoCardSaid : Prop := Claim7.holds Tryd.pinned (.plain (OpenSpec.upto scriptParsesSpec)) scriptParsesUptoCard

/-- THE SECOND FORM's CARD OF 'cuirasslaw23.ScriptUnlike'. -/
def scriptUnlikeUptoCard : Claim7 := { stood := { row := scriptUnlikeUptoRow, standIns := [], harness := (true, "1306b362bb4c59e4c34f40d4c2aa17520002762ccd333238a2f96d1e37958bf7"), looks := true }, kinds := [], alts := [], laidByText := true, laidKinds := [.data, .data, .data, .data, .sentinel, .sentinel, .widerDeep, .widerDeep, .pinned], laidTests := true, laidLooks := .later }
def ScriptUnlikeUptoCardSaid : Prop := Claim7.holds Tryd.pinned (.plain (OpenSpec.upto scriptUnlikeSpec)) scriptUnlikeUptoCard

/-- THE SECOND FORM's CARD OF 'cuirasslaw23.ScriptLines'. -/
def scriptLinesUptoCard : Claim7 := { stood := { row := scriptLinesUptoRow, standIns := [], harness := (true, "1306b362bb4c59e4c34f40d4c2aa17520002762ccd333238a2f96d1e37958bf7"), looks := true }, kinds := [], alts := [], laidByText := true, laidKinds := [.data, .data, .data, .data, .sentinel, .sentinel, .widerDeep, .widerDeep, .pinned], laidTests := true, laidLooks := .later }
def ScriptLinesUptoCardSaid : Prop := Claim7.holds Tryd.pinned (.plain (OpenSpec.upto scriptLinesSpec)) scriptLinesUptoCard
end Rows
end Go.Proofs.YtjbaabffilejeaaDoor
