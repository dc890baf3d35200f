/-
  DERIVED. GIVEN WITH THE SEED: THE CARDS: each row of YtkmffeicgpocgaaDoorRows.lean that lists a variable, with what it lists TIED to the program's text (the seventh form; the later family's looks); each row that meets fmt, with fmt's text TOLD by the authors' own Lean function (tested against real Go, not proved from fmt's source: count such statements apart). THE CARD IS WHAT COUNTS. Prove the row's statement (the work); the ties are given (YtkmffeicgpocgaaDoorTie.lean); close each card by the builder's one call (the guide's Derived/Test/ToyasCard.lean, 'card_holds'). Laid BY PROGRAM, IN A SANDBOX (cutbox-door.mjs). By AI agents, Wed Nov 11 2026. No macro, syntax, notation, axiom, sorry.
-/
import Derived.Test.YtkmffeicgpocgaaDoorRows
import GoSem.ClaimSeven
namespace Go.Proofs.YtkmffeicgpocgaaDoor
namespace Rows

/-- THE TIED CARD OF 'gazettelaw14.RecordsParts'. -/
def recordsPartsCard : Claim7 := { stood := { row := recordsPartsRow, standIns := [], harness := (true, "7307f901ca34ffa665c66d316075754eac080300e9c057a71145c5805ae41fb3"), looks := true }, kinds := [], alts := [], laidByText := true, laidKinds := [.data, .pinned], laidTests := true, laidLooks := .later }
def RecordsPartsCardSaid : Prop := Claim7.holds Tryd.pinned (.plain (OpenSpec.ofChange recordsPartsSpec)) recordsPartsCard

/-- THE TIED CARD OF 'gazettelaw17.LineageSplits'. -/
def lineageSplitsCard : Claim7 := { stood := { row := lineageSplitsRow, standIns := [], harness := (true, "7307f901ca34ffa665c66d316075754eac080300e9c057a71145c5805ae41fb3"), looks := true }, kinds := [], alts := [], laidByText := true, laidKinds := [.data, .pinned], laidTests := true, laidLooks := .later }
def LineageSplitsCardSaid : Prop := Claim7.holds Tryd.pinned (.plain (OpenSpec.ofChange lineageSplitsSpec)) lineageSplitsCard

/-- THE SECOND FORM's CARD OF 'gazettelaw14.RecordsParts'. -/
def recordsPartsUptoCard : Claim7 := { stood := { row := recordsPartsUptoRow, standIns := [], harness := (true, "7307f901ca34ffa665c66d316075754eac080300e9c057a71145c5805ae41fb3"), looks := true }, kinds := [], alts := [], laidByText := true, laidKinds := [.data, .pinned], laidTests := true, laidLooks := .later }
def RecordsPartsUptoCardSaid : Prop := Claim7.holds Tryd.pinned (.plain (OpenSpec.upto recordsPartsSpec)) recordsPartsUptoCard

/-- THE SECOND FORM's CARD OF 'gazettelaw17.LineageSplits'. -/
def lineageSplitsUptoCard : Claim7 := { stood := { row := lineageSplitsUptoRow, standIns := [], harness := (true, "7307f901ca34ffa665c66d316075754eac080300e9c057a71145c5805ae41fb3"), looks := true }, kinds := [], alts := [], laidByText := true, laidKinds := [.data, .pinned], laidTests := true, laidLooks := .later }
def LineageSplitsUptoCardSaid : Prop := Claim7.holds Tryd.pinned (.plain (OpenSpec.upto lineageSplitsSpec)) lineageSplitsUptoCard
end Rows
end Go.Proofs.YtkmffeicgpocgaaDoor
