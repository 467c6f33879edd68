/-
  DERIVED. GIVEN WITH THE SEED: THE CARDS: each row of YtifmkgkiipckbaaGreatDoorRows.lean that lists a variable, with what it lists TIED to the program's text (the seventh form; the later family's looks); each row that meets fmt, with fmt's text TOLD by the authors' own Lean function (tested against real Go, not proved from fmt's source: count such statements apart). THE CARD IS WHAT COUNTS. Prove the row's statement (the work); the ties are given (YtifmkgkiipckbaaGreatDoorTie.lean); close each card by the builder's one call (the guide's Derived/Test/ToyasCard.lean, 'card_holds'). Laid BY PROGRAM, IN A SANDBOX (cutbox-door.mjs). By AI agents, Wed Nov 11 2026. No macro, syntax, notation, axiom, sorry.
-/
import Derived.Test.YtifmkgkiipckbaaGreatDoorRows
import GoSem.ClaimSeven
namespace Go.Proofs.YtifmkgkiipckbaaGreatDoor
namespace Rows

/-- THE TIED CARD OF 'ostiarylaw17.CacheNumbers'. -/
def cacheNumbersCard : Claim7 := { stood := { row := cacheNumbersRow, standIns := [], harness := (true, "86952ae970a031f8df3f0de3b7f963cd0aecc142fd8ae479f2611e8ff9959d32"), looks := false }, kinds := [], alts := [], laidByText := true, laidKinds := [.data, .data, .data, .data, .pinned], laidTests := true, laidLooks := .later }
def CacheNumbersCardSaid : Prop := Claim7.holds Tryz.pinned (.plain (OpenSpec.ofChange cacheNumbersSpec)) cacheNumbersCard

/-- THE TIED CARD OF 'ostiarylaw21.BlobRanges'. -/
def blobRangesCard : Claim7 := { stood := { row := blobRangesRow, standIns := [], harness := (true, "86952ae970a031f8df3f0de3b7f963cd0aecc142fd8ae479f2611e8ff9959d32"), looks := false }, kinds := [], alts := [], laidByText := true, laidKinds := [.data, .data, .data, .data, .pinned], laidTests := true, laidLooks := .later }
def BlobRangesCardSaid : Prop := Claim7.holds Tryz.pinned (.plain (OpenSpec.ofChange blobRangesSpec)) blobRangesCard

/-- THE TIED CARD OF 'ostiarylaw21.BlobKept'. -/
def blobKeptCard : Claim7 := { stood := { row := blobKeptRow, standIns := [], harness := (true, "86952ae970a031f8df3f0de3b7f963cd0aecc142fd8ae479f2611e8ff9959d32"), looks := false }, kinds := [], alts := [], laidByText := true, laidKinds := [.data, .data, .data, .data, .pinned], laidTests := true, laidLooks := .later }
def BlobKeptCardSaid : Prop := Claim7.holds Tryz.pinned (.plain (OpenSpec.ofChange blobKeptSpec)) blobKeptCard

/-- THE TIED CARD OF 'ostiarylaw21.BlobNumbers'. -/
def blobNumbersCard : Claim7 := { stood := { row := blobNumbersRow, standIns := [], harness := (true, "86952ae970a031f8df3f0de3b7f963cd0aecc142fd8ae479f2611e8ff9959d32"), looks := false }, kinds := [], alts := [], laidByText := true, laidKinds := [.data, .data, .data, .data, .pinned], laidTests := true, laidLooks := .later }
def BlobNumbersCardSaid : Prop := Claim7.holds Tryz.pinned (.plain (OpenSpec.ofChange blobNumbersSpec)) blobNumbersCard

/-- THE TIED CARD OF 'ostiarylaw17.CachePlays'. -/
def cachePlaysCard : Claim7 := { stood := { row := cachePlaysRow, standIns := [], harness := (true, "86952ae970a031f8df3f0de3b7f963cd0aecc142fd8ae479f2611e8ff9959d32"), looks := false }, kinds := [], alts := [], laidByText := true, laidKinds := [.data, .data, .data, .data, .pinned], laidTests := true, laidLooks := .later }
def CachePlaysCardSaid : Prop := Claim7.holds Tryz.pinned (.plain (OpenSpec.ofChange cachePlaysSpec)) cachePlaysCard

/-- THE TIED CARD OF 'ostiarylaw21.BlobPlays'. -/
def blobPlaysCard : Claim7 := { stood := { row := blobPlaysRow, standIns := [], harness := (true, "86952ae970a031f8df3f0de3b7f963cd0aecc142fd8ae479f2611e8ff9959d32"), looks := false }, kinds := [], alts := [], laidByText := true, laidKinds := [.data, .data, .data, .data, .pinned], laidTests := true, laidLooks := .later }
def BlobPlaysCardSaid : Prop := Claim7.holds Tryz.pinned (.plain (OpenSpec.ofChange blobPlaysSpec)) blobPlaysCard

/-- THE TIED CARD OF 'ostiarylaw21.BlobApart'. -/
def blobApartCard : Claim7 := { stood := { row := blobApartRow, standIns := [], harness := (true, "86952ae970a031f8df3f0de3b7f963cd0aecc142fd8ae479f2611e8ff9959d32"), looks := false }, kinds := [], alts := [], laidByText := true, laidKinds := [.data, .data, .data, .data, .pinned], laidTests := true, laidLooks := .later }
def BlobApartCardSaid : Prop := Claim7.holds Tryz.pinned (.plain (OpenSpec.ofChange blobApartSpec)) blobApartCard

/-- THE TIED CARD OF 'ostiarylaw20.FilterShows'. -/
def filterShowsCard : Claim7 := { stood := { row := filterShowsRow, standIns := [], harness := (true, "86952ae970a031f8df3f0de3b7f963cd0aecc142fd8ae479f2611e8ff9959d32"), looks := false }, kinds := [], alts := [], laidByText := true, laidKinds := [.data, .pinned], laidTests := true, laidLooks := .later }
def FilterShowsCardSaid : Prop := Claim7.holds Tryz.pinned (.plain (OpenSpec.ofChange filterShowsSpec)) filterShowsCard

/-- THE SECOND FORM's CARD OF 'ostiarylaw17.CacheNumbers'. -/
def cacheNumbersUptoCard : Claim7 := { stood := { row := cacheNumbersUptoRow, standIns := [], harness := (true, "86952ae970a031f8df3f0de3b7f963cd0aecc142fd8ae479f2611e8ff9959d32"), looks := false }, kinds := [], alts := [], laidByText := true, laidKinds := [.data, .data, .data, .data, .pinned], laidTests := true, laidLooks := .later }
def CacheNumbersUptoCardSaid : Prop := Claim7.holds Tryz.pinned (.plain (OpenSpec.upto cacheNumbersSpec)) cacheNumbersUptoCard

/-- THE SECOND FORM's CARD OF 'ostiarylaw21.BlobRanges'. -/
def blobRangesUptoCard : Claim7 := { stood := { row := blobRangesUptoRow, standIns := [], harness := (true, "86952ae970a031f8df3f0de3b7f963cd0aecc142fd8ae479f2611e8ff9959d32"), looks := false }, kinds := [], alts := [], laidByText := true, laidKinds := [.data, .data, .data, .data, .pinned], laidTests := true, laidLooks := .later }
def BlobRangesUptoCardSaid : Prop := Claim7.holds Tryz.pinned (.plain (OpenSpec.upto blobRangesSpec)) blobRangesUptoCard

/-- THE SECOND FORM's CARD OF 'ostiarylaw21.BlobKept'. -/
def blobKeptUptoCard : Claim7 := { stood := { row := blobKeptUptoRow, standIns := [], harness := (true, "86952ae970a031f8df3f0de3b7f963cd0aecc142fd8ae479f2611e8ff9959d32"), looks := false }, kinds := [], alts := [], laidByText := true, laidKinds := [.data, .data, .data, .data, .pinned], laidTests := true, laidLooks := .later }
def BlobKeptUptoCardSaid : Prop := Claim7.holds Tryz.pinned (.plain (OpenSpec.upto blobKeptSpec)) blobKeptUptoCard

/-- THE SECOND FORM's CARD OF 'ostiarylaw21.BlobNumbers'. -/
def blobNumbersUptoCard : Claim7 := { stood := { row := blobNumbersUptoRow, standIns := [], harness := (true, "86952ae970a031f8df3f0de3b7f963cd0aecc142fd8ae479f2611e8ff9959d32"), looks := false }, kinds := [], alts := [], laidByText := true, laidKinds := [.data, .data, .data, .data, .pinned], laidTests := true, laidLooks := .later }
def BlobNumbersUptoCardSaid : Prop := Claim7.holds Tryz.pinned (.plain (OpenSpec.upto blobNumbersSpec)) blobNumbersUptoCard

/-- THE SECOND FORM's CARD OF 'ostiarylaw17.CachePlays'. -/
def cachePlaysUptoCard : Claim7 := { stood := { row := cachePlaysUptoRow, standIns := [], harness := (true, "86952ae970a031f8df3f0de3b7f963cd0aecc142fd8ae479f2611e8ff9959d32"), looks := false }, kinds := [], alts := [], laidByText := true, laidKinds := [.data, .data, .data, .data, .pinned], laidTests := true, laidLooks := .later }
def CachePlaysUptoCardSaid : Prop := Claim7.holds Tryz.pinned (.plain (OpenSpec.upto cachePlaysSpec)) cachePlaysUptoCard

/-- THE SECOND FORM's CARD OF 'ostiarylaw21.BlobPlays'. -/
def blobPlaysUptoCard : Claim7 := { stood := { row := blobPlaysUptoRow, standIns := [], harness := (true, "86952ae970a031f8df3f0de3b7f963cd0aecc142fd8ae479f2611e8ff9959d32"), looks := false }, kinds := [], alts := [], laidByText := true, laidKinds := [.data, .data, .data, .data, .pinned], laidTests := true, laidLooks := .later }
def BlobPlaysUptoCardSaid : Prop := Claim7.holds Tryz.pinned (.plain (OpenSpec.upto blobPlaysSpec)) blobPlaysUptoCard

/-- THE SECOND FORM's CARD OF 'ostiarylaw21.BlobApart'. -/
def blobApartUptoCard : Claim7 := { stood := { row := blobApartUptoRow, standIns := [], harness := (true, "86952ae970a031f8df3f0de3b7f963cd0aecc142fd8ae479f2611e8ff9959d32"), looks := false }, kinds := [], alts := [], laidByText := true, laidKinds := [.data, .data, .data, .data, .pinned], laidTests := true, laidLooks := .later }
def BlobApartUptoCardSaid : Prop := Claim7.holds Tryz.pinned (.plain (OpenSpec.upto blobApartSpec)) blobApartUptoCard

/-- THE SECOND FORM's CARD OF 'ostiarylaw20.FilterShows'. -/
def filterShowsUptoCard : Claim7 := { stood := { row := filterShowsUptoRow, standIns := [], harness := (true, "86952ae970a031f8df3f0de3b7f963cd0aecc142fd8ae479f2611e8ff9959d32"), looks := false }, kinds := [], alts := [], laidByText := true, laidKinds := [.data, .pinned], laidTests := true, laidLooks := .later }
def FilterShowsUptoCardSaid : Prop := Claim7.holds Tryz.pinned (.plain (OpenSpec.upto filterShowsSpec)) filterShowsUptoCard
end Rows
end Go.Proofs.YtifmkgkiipckbaaGreatDoor
