/-
  DERIVED. GIVEN WITH THE SEED: THE CARDS: each row of YteehjlciajhdoaaGreatDoorRows.lean that lists a variable, with what it lists TIED to the program's text (the seventh form; the later family's looks); each row that meets fmt, with fmt's text TOLD by the authors' own Lean function (tested against real Go, not proved from fmt's source: count such statements apart). THE CARD IS WHAT COUNTS. Prove the row's statement (the work); the ties are given (YteehjlciajhdoaaGreatDoorTie.lean); close each card by the builder's one call (the guide's Derived/Test/ToyasCard.lean, 'card_holds'). Laid BY PROGRAM, IN A SANDBOX (cutbox-door.mjs). By AI agents, Wed Nov 11 2026. No macro, syntax, notation, axiom, sorry.
-/
import Derived.Test.YteehjlciajhdoaaGreatDoorRows
import GoSem.ClaimSeven
namespace Go.Proofs.YteehjlciajhdoaaGreatDoor
namespace Rows

/-- THE TIED CARD OF 'ostiarylaw6.MimeBack'. -/
def mimeBackCard : Claim7 := { stood := { row := mimeBackRow, standIns := [], harness := (true, "2a69fd315b77892f4d5e50207e1ced82116aac813039dc5388c62a387ecf99be"), looks := true }, kinds := [], alts := [], laidByText := true, laidKinds := [.data, .pinned], laidTests := true, laidLooks := .later }
def MimeBackCardSaid : Prop := Claim7.holds Tryz.pinned (.plain (OpenSpec.ofChange mimeBackSpec)) mimeBackCard

/-- THE TIED CARD OF 'ostiarylaw6.MimeKept'. -/
def mimeKeptCard : Claim7 := { stood := { row := mimeKeptRow, standIns := [], harness := (true, "2a69fd315b77892f4d5e50207e1ced82116aac813039dc5388c62a387ecf99be"), looks := true }, kinds := [], alts := [], laidByText := true, laidKinds := [.data, .pinned], laidTests := true, laidLooks := .later }
def MimeKeptCardSaid : Prop := Claim7.holds Tryz.pinned (.plain (OpenSpec.ofChange mimeKeptSpec)) mimeKeptCard

/-- THE TIED CARD OF 'ostiarylaw6.MimeCharset'. -/
def mimeCharsetCard : Claim7 := { stood := { row := mimeCharsetRow, standIns := [], harness := (true, "2a69fd315b77892f4d5e50207e1ced82116aac813039dc5388c62a387ecf99be"), looks := true }, kinds := [], alts := [], laidByText := true, laidKinds := [.data, .pinned], laidTests := true, laidLooks := .later }
def MimeCharsetCardSaid : Prop := Claim7.holds Tryz.pinned (.plain (OpenSpec.ofChange mimeCharsetSpec)) mimeCharsetCard

/-- THE TIED CARD OF 'ostiarylaw6.MimeParams'. -/
def mimeParamsCard : Claim7 := { stood := { row := mimeParamsRow, standIns := [], harness := (true, "2a69fd315b77892f4d5e50207e1ced82116aac813039dc5388c62a387ecf99be"), looks := true }, kinds := [], alts := [], laidByText := true, laidKinds := [.data, .pinned], laidTests := true, laidLooks := .later }
def MimeParamsCardSaid : Prop := Claim7.holds Tryz.pinned (.plain (OpenSpec.ofChange mimeParamsSpec)) mimeParamsCard

/-- THE TIED CARD OF 'ostiarylaw6.MimeParses'. -/
def mimeParsesCard : Claim7 := { stood := { row := mimeParsesRow, standIns := [], harness := (true, "2a69fd315b77892f4d5e50207e1ced82116aac813039dc5388c62a387ecf99be"), looks := true }, kinds := [], alts := [], laidByText := true, laidKinds := [.data, .pinned], laidTests := true, laidLooks := .later }
def MimeParsesCardSaid : Prop := Claim7.holds Tryz.pinned (.plain (OpenSpec.ofChange mimeParsesSpec)) mimeParsesCard

/-- THE TIED CARD OF 'ostiarylaw6.MimeNumbers'. -/
def mimeNumbersCard : Claim7 := { stood := { row := mimeNumbersRow, standIns := [], harness := (true, "2a69fd315b77892f4d5e50207e1ced82116aac813039dc5388c62a387ecf99be"), looks := true }, kinds := [], alts := [], laidByText := true, laidKinds := [.data, .pinned], laidTests := true, laidLooks := .later }
def MimeNumbersCardSaid : Prop := Claim7.holds Tryz.pinned (.plain (OpenSpec.ofChange mimeNumbersSpec)) mimeNumbersCard

/-- THE TIED CARD OF 'ostiarylaw5.HeadersKept'. -/
def headersKeptCard : Claim7 := { stood := { row := headersKeptRow, standIns := [], harness := (true, "2a69fd315b77892f4d5e50207e1ced82116aac813039dc5388c62a387ecf99be"), looks := true }, kinds := [], alts := [], laidByText := true, laidKinds := [.data, .pinned], laidTests := true, laidLooks := .later }
def HeadersKeptCardSaid : Prop := Claim7.holds Tryz.pinned (.plain (OpenSpec.ofChange headersKeptSpec)) headersKeptCard

/-- THE TIED CARD OF 'ostiarylaw7.DataReads'. -/
def dataReadsCard : Claim7 := { stood := { row := dataReadsRow, standIns := [], harness := (true, "2a69fd315b77892f4d5e50207e1ced82116aac813039dc5388c62a387ecf99be"), looks := true }, kinds := [], alts := [], laidByText := true, laidKinds := [.data, .data, .data, .data, .pinned], laidTests := true, laidLooks := .later }
def DataReadsCardSaid : Prop := Claim7.holds Tryz.pinned (.plain (OpenSpec.ofChange dataReadsSpec)) dataReadsCard

/-- THE TIED CARD OF 'ostiarylaw7.DataPlain'. -/
def dataPlainCard : Claim7 := { stood := { row := dataPlainRow, standIns := [], harness := (true, "2a69fd315b77892f4d5e50207e1ced82116aac813039dc5388c62a387ecf99be"), looks := true }, kinds := [], alts := [], laidByText := true, laidKinds := [.data, .data, .data, .data, .pinned], laidTests := true, laidLooks := .later }
def DataPlainCardSaid : Prop := Claim7.holds Tryz.pinned (.plain (OpenSpec.ofChange dataPlainSpec)) dataPlainCard

/-- THE TIED CARD OF 'ostiarylaw7.DataNumbers'. -/
def dataNumbersCard : Claim7 := { stood := { row := dataNumbersRow, standIns := [], harness := (true, "2a69fd315b77892f4d5e50207e1ced82116aac813039dc5388c62a387ecf99be"), looks := true }, kinds := [], alts := [], laidByText := true, laidKinds := [.data, .data, .data, .data, .pinned], laidTests := true, laidLooks := .later }
def DataNumbersCardSaid : Prop := Claim7.holds Tryz.pinned (.plain (OpenSpec.ofChange dataNumbersSpec)) dataNumbersCard

/-- THE TIED CARD OF 'ostiarylaw7.DataBack'. -/
def dataBackCard : Claim7 := { stood := { row := dataBackRow, standIns := [], harness := (true, "2a69fd315b77892f4d5e50207e1ced82116aac813039dc5388c62a387ecf99be"), looks := true }, kinds := [], alts := [], laidByText := true, laidKinds := [.data, .data, .data, .data, .pinned], laidTests := true, laidLooks := .later }
def DataBackCardSaid : Prop := Claim7.holds Tryz.pinned (.plain (OpenSpec.ofChange dataBackSpec)) dataBackCard

/-- THE TIED CARD OF 'ostiarylaw7.DataKept'. -/
def dataKeptCard : Claim7 := { stood := { row := dataKeptRow, standIns := [], harness := (true, "2a69fd315b77892f4d5e50207e1ced82116aac813039dc5388c62a387ecf99be"), looks := true }, kinds := [], alts := [], laidByText := true, laidKinds := [.data, .data, .data, .data, .pinned], laidTests := true, laidLooks := .later }
def DataKeptCardSaid : Prop := Claim7.holds Tryz.pinned (.plain (OpenSpec.ofChange dataKeptSpec)) dataKeptCard

/-- THE SECOND FORM's CARD OF 'ostiarylaw6.MimeBack'. -/
def mimeBackUptoCard : Claim7 := { stood := { row := mimeBackUptoRow, standIns := [], harness := (true, "2a69fd315b77892f4d5e50207e1ced82116aac813039dc5388c62a387ecf99be"), looks := true }, kinds := [], alts := [], laidByText := true, laidKinds := [.data, .pinned], laidTests := true, laidLooks := .later }
def MimeBackUptoCardSaid : Prop := Claim7.holds Tryz.pinned (.plain (OpenSpec.upto mimeBackSpec)) mimeBackUptoCard

/-- THE SECOND FORM's CARD OF 'ostiarylaw6.MimeKept'. -/
def mimeKeptUptoCard : Claim7 := { stood := { row := mimeKeptUptoRow, standIns := [], harness := (true, "2a69fd315b77892f4d5e50207e1ced82116aac813039dc5388c62a387ecf99be"), looks := true }, kinds := [], alts := [], laidByText := true, laidKinds := [.data, .pinned], laidTests := true, laidLooks := .later }
def MimeKeptUptoCardSaid : Prop := Claim7.holds Tryz.pinned (.plain (OpenSpec.upto mimeKeptSpec)) mimeKeptUptoCard

/-- THE SECOND FORM's CARD OF 'ostiarylaw6.MimeCharset'. -/
def mimeCharsetUptoCard : Claim7 := { stood := { row := mimeCharsetUptoRow, standIns := [], harness := (true, "2a69fd315b77892f4d5e50207e1ced82116aac813039dc5388c62a387ecf99be"), looks := true }, kinds := [], alts := [], laidByText := true, laidKinds := [.data, .pinned], laidTests := true, laidLooks := .later }
def MimeCharsetUptoCardSaid : Prop := Claim7.holds Tryz.pinned (.plain (OpenSpec.upto mimeCharsetSpec)) mimeCharsetUptoCard

/-- THE SECOND FORM's CARD OF 'ostiarylaw6.MimeParams'. -/
def mimeParamsUptoCard : Claim7 := { stood := { row := mimeParamsUptoRow, standIns := [], harness := (true, "2a69fd315b77892f4d5e50207e1ced82116aac813039dc5388c62a387ecf99be"), looks := true }, kinds := [], alts := [], laidByText := true, laidKinds := [.data, .pinned], laidTests := true, laidLooks := .later }
def MimeParamsUptoCardSaid : Prop := Claim7.holds Tryz.pinned (.plain (OpenSpec.upto mimeParamsSpec)) mimeParamsUptoCard

/-- THE SECOND FORM's CARD OF 'ostiarylaw6.MimeParses'. -/
def mimeParsesUptoCard : Claim7 := { stood := { row := mimeParsesUptoRow, standIns := [], harness := (true, "2a69fd315b77892f4d5e50207e1ced82116aac813039dc5388c62a387ecf99be"), looks := true }, kinds := [], alts := [], laidByText := true, laidKinds := [.data, .pinned], laidTests := true, laidLooks := .later }
def MimeParsesUptoCardSaid : Prop := Claim7.holds Tryz.pinned (.plain (OpenSpec.upto mimeParsesSpec)) mimeParsesUptoCard

/-- THE SECOND FORM's CARD OF 'ostiarylaw6.MimeNumbers'. -/
def mimeNumbersUptoCard : Claim7 := { stood := { row := mimeNumbersUptoRow, standIns := [], harness := (true, "2a69fd315b77892f4d5e50207e1ced82116aac813039dc5388c62a387ecf99be"), looks := true }, kinds := [], alts := [], laidByText := true, laidKinds := [.data, .pinned], laidTests := true, laidLooks := .later }
def MimeNumbersUptoCardSaid : Prop := Claim7.holds Tryz.pinned (.plain (OpenSpec.upto mimeNumbersSpec)) mimeNumbersUptoCard

/-- THE SECOND FORM's CARD OF 'ostiarylaw5.HeadersKept'. -/
def headersKeptUptoCard : Claim7 := { stood := { row := headersKeptUptoRow, standIns := [], harness := (true, "2a69fd315b77892f4d5e50207e1ced82116aac813039dc5388c62a387ecf99be"), looks := true }, kinds := [], alts := [], laidByText := true, laidKinds := [.data, .pinned], laidTests := true, laidLooks := .later }
def HeadersKeptUptoCardSaid : Prop := Claim7.holds Tryz.pinned (.plain (OpenSpec.upto headersKeptSpec)) headersKeptUptoCard

/-- THE SECOND FORM's CARD OF 'ostiarylaw7.DataReads'. -/
def dataReadsUptoCard : Claim7 := { stood := { row := dataReadsUptoRow, standIns := [], harness := (true, "2a69fd315b77892f4d5e50207e1ced82116aac813039dc5388c62a387ecf99be"), looks := true }, kinds := [], alts := [], laidByText := true, laidKinds := [.data, .data, .data, .data, .pinned], laidTests := true, laidLooks := .later }
def DataReadsUptoCardSaid : Prop := Claim7.holds Tryz.pinned (.plain (OpenSpec.upto dataReadsSpec)) dataReadsUptoCard

/-- THE SECOND FORM's CARD OF 'ostiarylaw7.DataPlain'. -/
def dataPlainUptoCard : Claim7 := { stood := { row := dataPlainUptoRow, standIns := [], harness := (true, "2a69fd315b77892f4d5e50207e1ced82116aac813039dc5388c62a387ecf99be"), looks := true }, kinds := [], alts := [], laidByText := true, laidKinds := [.data, .data, .data, .data, .pinned], laidTests := true, laidLooks := .later }
def DataPlainUptoCardSaid : Prop := Claim7.holds Tryz.pinned (.plain (OpenSpec.upto dataPlainSpec)) dataPlainUptoCard

/-- THE SECOND FORM's CARD OF 'ostiarylaw7.DataNumbers'. -/
def dataNumbersUptoCard : Claim7 := { stood := { row := dataNumbersUptoRow, standIns := [], harness := (true, "2a69fd315b77892f4d5e50207e1ced82116aac813039dc5388c62a387ecf99be"), looks := true }, kinds := [], alts := [], laidByText := true, laidKinds := [.data, .data, .data, .data, .pinned], laidTests := true, laidLooks := .later }
def DataNumbersUptoCardSaid : Prop := Claim7.holds Tryz.pinned (.plain (OpenSpec.upto dataNumbersSpec)) dataNumbersUptoCard

/-- THE SECOND FORM's CARD OF 'ostiarylaw7.DataBack'. -/
def dataBackUptoCard : Claim7 := { stood := { row := dataBackUptoRow, standIns := [], harness := (true, "2a69fd315b77892f4d5e50207e1ced82116aac813039dc5388c62a387ecf99be"), looks := true }, kinds := [], alts := [], laidByText := true, laidKinds := [.data, .data, .data, .data, .pinned], laidTests := true, laidLooks := .later }
def DataBackUptoCardSaid : Prop := Claim7.holds Tryz.pinned (.plain (OpenSpec.upto dataBackSpec)) dataBackUptoCard

/-- THE SECOND FORM's CARD OF 'ostiarylaw7.DataKept'. -/
def dataKeptUptoCard : Claim7 := { stood := { row := dataKeptUptoRow, standIns := [], harness := (true, "2a69fd315b77892f4d5e50207e1ced82116aac813039dc5388c62a387ecf99be"), looks := true }, kinds := [], alts := [], laidByText := true, laidKinds := [.data, .data, .data, .data, .pinned], laidTests := true, laidLooks := .later }
def DataKeptUptoCardSaid : Prop := Claim7.holds Tryz.pinned (.plain (OpenSpec.upto dataKeptSpec)) dataKeptUptoCard
end Rows
end Go.Proofs.YteehjlciajhdoaaGreatDoor
