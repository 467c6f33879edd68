/-
  DERIVED. GIVEN WITH THE SEED: THE CARDS: each row of YtifmkgkiipckbaaDoorRows.lean that lists a variable, with what it lists TIED to the program's text (the seventh form; the later family's looks); each row that meets fmt, with fmt's text TOLD by the authors' own Lean function (tested against real Go, not proved from fmt's source: count such statements apart). THE CARD IS WHAT COUNTS. Prove the row's statement (the work); the ties are given (YtifmkgkiipckbaaDoorTie.lean); close each card by the builder's one call (the guide's Derived/Test/ToyasCard.lean, 'card_holds'). Laid BY PROGRAM, IN A SANDBOX (cutbox-door.mjs). By AI agents, Wed Nov 11 2026. No macro, syntax, notation, axiom, sorry.
-/
import Derived.Test.YtifmkgkiipckbaaDoorRows
import GoSem.ClaimSeven
namespace Go.Proofs.YtifmkgkiipckbaaDoor
namespace Rows

/-- THE TIED CARD OF 'ostiarylaw18.CorsLess'. -/
def corsLessCard : Claim7 := { stood := { row := corsLessRow, standIns := [], harness := (true, "14a9632e8b0106558b471732afecf8733e1bf50c5c51fe6fb369a7a005f08f88"), looks := false }, kinds := [], alts := [], laidByText := true, laidKinds := [.data, .data, .data], laidTests := true, laidLooks := .later }
def CorsLessCardSaid : Prop := Claim7.holds Tryd.pinned (.plain (OpenSpec.ofChange corsLessSpec)) corsLessCard

/-- THE TIED CARD OF 'ostiarylaw9.IntegrityChecks'. -/
def integrityChecksCard : Claim7 := { stood := { row := integrityChecksRow, standIns := [], harness := (true, "14a9632e8b0106558b471732afecf8733e1bf50c5c51fe6fb369a7a005f08f88"), looks := false }, kinds := [], alts := [], laidByText := true, laidKinds := [.data, .data, .data, .data, .data, .data], laidTests := true, laidLooks := .later }
def IntegrityChecksCardSaid : Prop := Claim7.holds Tryd.pinned (.plain (OpenSpec.ofChange integrityChecksSpec)) integrityChecksCard

/-- THE TIED CARD OF 'ostiarylaw9.IntegrityKept'. -/
def integrityKeptCard : Claim7 := { stood := { row := integrityKeptRow, standIns := [], harness := (true, "14a9632e8b0106558b471732afecf8733e1bf50c5c51fe6fb369a7a005f08f88"), looks := false }, kinds := [], alts := [], laidByText := true, laidKinds := [.data, .data, .data, .data, .data, .data], laidTests := true, laidLooks := .later }
def IntegrityKeptCardSaid : Prop := Claim7.holds Tryd.pinned (.plain (OpenSpec.ofChange integrityKeptSpec)) integrityKeptCard

/-- THE TIED CARD OF 'ostiarylaw9.IntegrityMakes'. -/
def integrityMakesCard : Claim7 := { stood := { row := integrityMakesRow, standIns := [], harness := (true, "14a9632e8b0106558b471732afecf8733e1bf50c5c51fe6fb369a7a005f08f88"), looks := false }, kinds := [], alts := [], laidByText := true, laidKinds := [.data, .data, .data, .data, .data, .data, .data, .data, .data], laidTests := true, laidLooks := .later }
def IntegrityMakesCardSaid : Prop := Claim7.holds Tryd.pinned (.plain (OpenSpec.ofChange integrityMakesSpec)) integrityMakesCard

/-- THE TIED CARD OF 'ostiarylaw20.FilterLess'. -/
def filterLessCard : Claim7 := { stood := { row := filterLessRow, standIns := [], harness := (true, "14a9632e8b0106558b471732afecf8733e1bf50c5c51fe6fb369a7a005f08f88"), looks := false }, kinds := [], alts := [], laidByText := true, laidKinds := [.data, .pinned], laidTests := true, laidLooks := .later }
def FilterLessCardSaid : Prop := Claim7.holds Tryd.pinned (.plain (OpenSpec.ofChange filterLessSpec)) filterLessCard

/-- THE TIED CARD OF 'ostiarylaw20.FilterKept'. -/
def filterKeptCard : Claim7 := { stood := { row := filterKeptRow, standIns := [], harness := (true, "14a9632e8b0106558b471732afecf8733e1bf50c5c51fe6fb369a7a005f08f88"), looks := false }, kinds := [], alts := [], laidByText := true, laidKinds := [.data, .pinned], laidTests := true, laidLooks := .later }
def FilterKeptCardSaid : Prop := Claim7.holds Tryd.pinned (.plain (OpenSpec.ofChange filterKeptSpec)) filterKeptCard

/-- THE TIED CARD OF 'ostiarylaw20.FilterNumbers'. -/
def filterNumbersCard : Claim7 := { stood := { row := filterNumbersRow, standIns := [], harness := (true, "14a9632e8b0106558b471732afecf8733e1bf50c5c51fe6fb369a7a005f08f88"), looks := false }, kinds := [], alts := [], laidByText := true, laidKinds := [.data, .pinned], laidTests := true, laidLooks := .later }
def FilterNumbersCardSaid : Prop := Claim7.holds Tryd.pinned (.plain (OpenSpec.ofChange filterNumbersSpec)) filterNumbersCard

/-- THE SECOND FORM's CARD OF 'ostiarylaw18.CorsLess'. -/
def corsLessUptoCard : Claim7 := { stood := { row := corsLessUptoRow, standIns := [], harness := (true, "14a9632e8b0106558b471732afecf8733e1bf50c5c51fe6fb369a7a005f08f88"), looks := false }, kinds := [], alts := [], laidByText := true, laidKinds := [.data, .data, .data], laidTests := true, laidLooks := .later }
def CorsLessUptoCardSaid : Prop := Claim7.holds Tryd.pinned (.plain (OpenSpec.upto corsLessSpec)) corsLessUptoCard

/-- THE SECOND FORM's CARD OF 'ostiarylaw9.IntegrityChecks'. -/
def integrityChecksUptoCard : Claim7 := { stood := { row := integrityChecksUptoRow, standIns := [], harness := (true, "14a9632e8b0106558b471732afecf8733e1bf50c5c51fe6fb369a7a005f08f88"), looks := false }, kinds := [], alts := [], laidByText := true, laidKinds := [.data, .data, .data, .data, .data, .data], laidTests := true, laidLooks := .later }
def IntegrityChecksUptoCardSaid : Prop := Claim7.holds Tryd.pinned (.plain (OpenSpec.upto integrityChecksSpec)) integrityChecksUptoCard

/-- THE SECOND FORM's CARD OF 'ostiarylaw9.IntegrityKept'. -/
def integrityKeptUptoCard : Claim7 := { stood := { row := integrityKeptUptoRow, standIns := [], harness := (true, "14a9632e8b0106558b471732afecf8733e1bf50c5c51fe6fb369a7a005f08f88"), looks := false }, kinds := [], alts := [], laidByText := true, laidKinds := [.data, .data, .data, .data, .data, .data], laidTests := true, laidLooks := .later }
def IntegrityKeptUptoCardSaid : Prop := Claim7.holds Tryd.pinned (.plain (OpenSpec.upto integrityKeptSpec)) integrityKeptUptoCard

/-- THE SECOND FORM's CARD OF 'ostiarylaw9.IntegrityMakes'. -/
def integrityMakesUptoCard : Claim7 := { stood := { row := integrityMakesUptoRow, standIns := [], harness := (true, "14a9632e8b0106558b471732afecf8733e1bf50c5c51fe6fb369a7a005f08f88"), looks := false }, kinds := [], alts := [], laidByText := true, laidKinds := [.data, .data, .data, .data, .data, .data, .data, .data, .data], laidTests := true, laidLooks := .later }
def IntegrityMakesUptoCardSaid : Prop := Claim7.holds Tryd.pinned (.plain (OpenSpec.upto integrityMakesSpec)) integrityMakesUptoCard

/-- THE SECOND FORM's CARD OF 'ostiarylaw20.FilterLess'. -/
def filterLessUptoCard : Claim7 := { stood := { row := filterLessUptoRow, standIns := [], harness := (true, "14a9632e8b0106558b471732afecf8733e1bf50c5c51fe6fb369a7a005f08f88"), looks := false }, kinds := [], alts := [], laidByText := true, laidKinds := [.data, .pinned], laidTests := true, laidLooks := .later }
def FilterLessUptoCardSaid : Prop := Claim7.holds Tryd.pinned (.plain (OpenSpec.upto filterLessSpec)) filterLessUptoCard

/-- THE SECOND FORM's CARD OF 'ostiarylaw20.FilterKept'. -/
def filterKeptUptoCard : Claim7 := { stood := { row := filterKeptUptoRow, standIns := [], harness := (true, "14a9632e8b0106558b471732afecf8733e1bf50c5c51fe6fb369a7a005f08f88"), looks := false }, kinds := [], alts := [], laidByText := true, laidKinds := [.data, .pinned], laidTests := true, laidLooks := .later }
def FilterKeptUptoCardSaid : Prop := Claim7.holds Tryd.pinned (.plain (OpenSpec.upto filterKeptSpec)) filterKeptUptoCard

/-- THE SECOND FORM's CARD OF 'ostiarylaw20.FilterNumbers'. -/
def filterNumbersUptoCard : Claim7 := { stood := { row := filterNumbersUptoRow, standIns := [], harness := (true, "14a9632e8b0106558b471732afecf8733e1bf50c5c51fe6fb369a7a005f08f88"), looks := false }, kinds := [], alts := [], laidByText := true, laidKinds := [.data, .pinned], laidTests := true, laidLooks := .later }
def FilterNumbersUptoCardSaid : Prop := Claim7.holds Tryd.pinned (.plain (OpenSpec.upto filterNumbersSpec)) filterNumbersUptoCard
end Rows
end Go.Proofs.YtifmkgkiipckbaaDoor
