/-
  DERIVED. GIVEN WITH THE SEED: THE CARDS: each row of YtinbdcelmgfniaaGreatDoorRows.lean that lists a variable, with what it lists TIED to the program's text (the seventh form; the later family's looks); each row that meets fmt, with fmt's text TOLD by the authors' own Lean function (tested against real Go, not proved from fmt's source: count such statements apart). THE CARD IS WHAT COUNTS. Prove the row's statement (the work); the ties are given (YtinbdcelmgfniaaGreatDoorTie.lean); close each card by the builder's one call (the guide's Derived/Test/ToyasCard.lean, 'card_holds'). Laid BY PROGRAM, IN A SANDBOX (cutbox-door.mjs). By AI agents, Wed Nov 11 2026. No macro, syntax, notation, axiom, sorry.
-/
import Derived.Test.YtinbdcelmgfniaaGreatDoorRows
import GoSem.ClaimSeven
namespace Go.Proofs.YtinbdcelmgfniaaGreatDoor
namespace Rows

/-- THE TIED CARD OF 'sealringlaw20.EnvelopeDecode'. -/
def envelopeDecodeCard : Claim7 := { stood := { row := envelopeDecodeRow, standIns := [], harness := (true, "4d0671238eea471503df099003a4a6e855ae10302fff52cb303bedb0380f2648"), looks := false }, kinds := [], alts := [], laidByText := true, laidKinds := [.data, .data, .data], laidTests := true, laidLooks := .later }
def EnvelopeDecodeCardSaid : Prop := Claim7.holds Tryz.pinned (.plain (OpenSpec.ofChange envelopeDecodeSpec)) envelopeDecodeCard

/-- THE TIED CARD OF 'sealringlaw20.EnvelopeEncode'. -/
def envelopeEncodeCard : Claim7 := { stood := { row := envelopeEncodeRow, standIns := [], harness := (true, "4d0671238eea471503df099003a4a6e855ae10302fff52cb303bedb0380f2648"), looks := false }, kinds := [], alts := [], laidByText := true, laidKinds := [.data, .data, .data], laidTests := true, laidLooks := .later }
def EnvelopeEncodeCardSaid : Prop := Claim7.holds Tryz.pinned (.plain (OpenSpec.ofChange envelopeEncodeSpec)) envelopeEncodeCard

/-- THE TIED CARD OF 'sealringlaw20.EnvelopePrefix'. -/
def envelopePrefixCard : Claim7 := { stood := { row := envelopePrefixRow, standIns := [], harness := (true, "4d0671238eea471503df099003a4a6e855ae10302fff52cb303bedb0380f2648"), looks := false }, kinds := [], alts := [], laidByText := true, laidKinds := [.data, .data, .data], laidTests := true, laidLooks := .later }
def EnvelopePrefixCardSaid : Prop := Claim7.holds Tryz.pinned (.plain (OpenSpec.ofChange envelopePrefixSpec)) envelopePrefixCard

/-- THE TIED CARD OF 'sealringlaw20.EnvelopeSpoil'. -/
def envelopeSpoilCard : Claim7 := { stood := { row := envelopeSpoilRow, standIns := [], harness := (true, "4d0671238eea471503df099003a4a6e855ae10302fff52cb303bedb0380f2648"), looks := false }, kinds := [], alts := [], laidByText := true, laidKinds := [.data, .data, .data], laidTests := true, laidLooks := .later }
def EnvelopeSpoilCardSaid : Prop := Claim7.holds Tryz.pinned (.plain (OpenSpec.ofChange envelopeSpoilSpec)) envelopeSpoilCard

/-- THE TIED CARD OF 'sealringlaw20.EnvelopeTags'. -/
def envelopeTagsCard : Claim7 := { stood := { row := envelopeTagsRow, standIns := [], harness := (true, "4d0671238eea471503df099003a4a6e855ae10302fff52cb303bedb0380f2648"), looks := false }, kinds := [], alts := [], laidByText := true, laidKinds := [.data, .data, .data], laidTests := true, laidLooks := .later }
def EnvelopeTagsCardSaid : Prop := Claim7.holds Tryz.pinned (.plain (OpenSpec.ofChange envelopeTagsSpec)) envelopeTagsCard

/-- THE TIED CARD OF 'sealringlaw20.EnvelopeFits'. -/
def envelopeFitsCard : Claim7 := { stood := { row := envelopeFitsRow, standIns := [], harness := (true, "4d0671238eea471503df099003a4a6e855ae10302fff52cb303bedb0380f2648"), looks := false }, kinds := [], alts := [], laidByText := true, laidKinds := [.data, .data, .data], laidTests := true, laidLooks := .later }
def EnvelopeFitsCardSaid : Prop := Claim7.holds Tryz.pinned (.plain (OpenSpec.ofChange envelopeFitsSpec)) envelopeFitsCard

/-- THE TIED CARD OF 'sealringlaw20.EnvelopeStrings'. -/
def envelopeStringsCard : Claim7 := { stood := { row := envelopeStringsRow, standIns := [], harness := (true, "4d0671238eea471503df099003a4a6e855ae10302fff52cb303bedb0380f2648"), looks := false }, kinds := [], alts := [], laidByText := true, laidKinds := [.data, .data, .data], laidTests := true, laidLooks := .later }
def EnvelopeStringsCardSaid : Prop := Claim7.holds Tryz.pinned (.plain (OpenSpec.ofChange envelopeStringsSpec)) envelopeStringsCard

/-- THE SECOND FORM's CARD OF 'sealringlaw20.EnvelopeDecode'. -/
def envelopeDecodeUptoCard : Claim7 := { stood := { row := envelopeDecodeUptoRow, standIns := [], harness := (true, "4d0671238eea471503df099003a4a6e855ae10302fff52cb303bedb0380f2648"), looks := false }, kinds := [], alts := [], laidByText := true, laidKinds := [.data, .data, .data], laidTests := true, laidLooks := .later }
def EnvelopeDecodeUptoCardSaid : Prop := Claim7.holds Tryz.pinned (.plain (OpenSpec.upto envelopeDecodeSpec)) envelopeDecodeUptoCard

/-- THE SECOND FORM's CARD OF 'sealringlaw20.EnvelopeEncode'. -/
def envelopeEncodeUptoCard : Claim7 := { stood := { row := envelopeEncodeUptoRow, standIns := [], harness := (true, "4d0671238eea471503df099003a4a6e855ae10302fff52cb303bedb0380f2648"), looks := false }, kinds := [], alts := [], laidByText := true, laidKinds := [.data, .data, .data], laidTests := true, laidLooks := .later }
def EnvelopeEncodeUptoCardSaid : Prop := Claim7.holds Tryz.pinned (.plain (OpenSpec.upto envelopeEncodeSpec)) envelopeEncodeUptoCard

/-- THE SECOND FORM's CARD OF 'sealringlaw20.EnvelopePrefix'. -/
def envelopePrefixUptoCard : Claim7 := { stood := { row := envelopePrefixUptoRow, standIns := [], harness := (true, "4d0671238eea471503df099003a4a6e855ae10302fff52cb303bedb0380f2648"), looks := false }, kinds := [], alts := [], laidByText := true, laidKinds := [.data, .data, .data], laidTests := true, laidLooks := .later }
def EnvelopePrefixUptoCardSaid : Prop := Claim7.holds Tryz.pinned (.plain (OpenSpec.upto envelopePrefixSpec)) envelopePrefixUptoCard

/-- THE SECOND FORM's CARD OF 'sealringlaw20.EnvelopeSpoil'. -/
def envelopeSpoilUptoCard : Claim7 := { stood := { row := envelopeSpoilUptoRow, standIns := [], harness := (true, "4d0671238eea471503df099003a4a6e855ae10302fff52cb303bedb0380f2648"), looks := false }, kinds := [], alts := [], laidByText := true, laidKinds := [.data, .data, .data], laidTests := true, laidLooks := .later }
def EnvelopeSpoilUptoCardSaid : Prop := Claim7.holds Tryz.pinned (.plain (OpenSpec.upto envelopeSpoilSpec)) envelopeSpoilUptoCard

/-- THE SECOND FORM's CARD OF 'sealringlaw20.EnvelopeTags'. -/
def envelopeTagsUptoCard : Claim7 := { stood := { row := envelopeTagsUptoRow, standIns := [], harness := (true, "4d0671238eea471503df099003a4a6e855ae10302fff52cb303bedb0380f2648"), looks := false }, kinds := [], alts := [], laidByText := true, laidKinds := [.data, .data, .data], laidTests := true, laidLooks := .later }
def EnvelopeTagsUptoCardSaid : Prop := Claim7.holds Tryz.pinned (.plain (OpenSpec.upto envelopeTagsSpec)) envelopeTagsUptoCard

/-- THE SECOND FORM's CARD OF 'sealringlaw20.EnvelopeFits'. -/
def envelopeFitsUptoCard : Claim7 := { stood := { row := envelopeFitsUptoRow, standIns := [], harness := (true, "4d0671238eea471503df099003a4a6e855ae10302fff52cb303bedb0380f2648"), looks := false }, kinds := [], alts := [], laidByText := true, laidKinds := [.data, .data, .data], laidTests := true, laidLooks := .later }
def EnvelopeFitsUptoCardSaid : Prop := Claim7.holds Tryz.pinned (.plain (OpenSpec.upto envelopeFitsSpec)) envelopeFitsUptoCard

/-- THE SECOND FORM's CARD OF 'sealringlaw20.EnvelopeStrings'. -/
def envelopeStringsUptoCard : Claim7 := { stood := { row := envelopeStringsUptoRow, standIns := [], harness := (true, "4d0671238eea471503df099003a4a6e855ae10302fff52cb303bedb0380f2648"), looks := false }, kinds := [], alts := [], laidByText := true, laidKinds := [.data, .data, .data], laidTests := true, laidLooks := .later }
def EnvelopeStringsUptoCardSaid : Prop := Claim7.holds Tryz.pinned (.plain (OpenSpec.upto envelopeStringsSpec)) envelopeStringsUptoCard
end Rows
end Go.Proofs.YtinbdcelmgfniaaGreatDoor
