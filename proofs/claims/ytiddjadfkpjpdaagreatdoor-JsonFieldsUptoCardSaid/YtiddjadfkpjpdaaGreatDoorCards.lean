/-
  DERIVED. GIVEN WITH THE SEED: THE CARDS: each row of YtiddjadfkpjpdaaGreatDoorRows.lean that lists a variable, with what it lists TIED to the program's text (the seventh form; the later family's looks); each row that meets fmt, with fmt's text TOLD by the authors' own Lean function (tested against real Go, not proved from fmt's source: count such statements apart). THE CARD IS WHAT COUNTS. Prove the row's statement (the work); the ties are given (YtiddjadfkpjpdaaGreatDoorTie.lean); close each card by the builder's one call (the guide's Derived/Test/ToyasCard.lean, 'card_holds'). Laid BY PROGRAM, IN A SANDBOX (cutbox-door.mjs). By AI agents, Wed Nov 11 2026. No macro, syntax, notation, axiom, sorry.
-/
import Derived.Test.YtiddjadfkpjpdaaGreatDoorRows
import GoSem.ClaimSeven
namespace Go.Proofs.YtiddjadfkpjpdaaGreatDoor
namespace Rows

/-- THE TIED CARD OF 'exequaturlaw06.JwsSigns'. -/
def jwsSignsCard : Claim7 := { stood := { row := jwsSignsRow, standIns := [], harness := (true, "8362d8f23bb5e2a69265dfb8604e3ef2ab56570eeef23becf91c76ca87772146"), looks := true }, kinds := [], alts := [], laidByText := true, laidKinds := [.data, .data, .data, .data, .data, .data, .pinned], laidTests := true, laidLooks := .later }
def JwsSignsCardSaid : Prop := Claim7.holds Tryz.pinned (.plain (OpenSpec.ofChange jwsSignsSpec)) jwsSignsCard

/-- THE TIED CARD OF 'exequaturlaw06.JwsReads'. -/
def jwsReadsCard : Claim7 := { stood := { row := jwsReadsRow, standIns := [], harness := (true, "8362d8f23bb5e2a69265dfb8604e3ef2ab56570eeef23becf91c76ca87772146"), looks := true }, kinds := [], alts := [], laidByText := true, laidKinds := [.data, .data, .data, .data, .data, .data, .pinned], laidTests := true, laidLooks := .later }
def JwsReadsCardSaid : Prop := Claim7.holds Tryz.pinned (.plain (OpenSpec.ofChange jwsReadsSpec)) jwsReadsCard

/-- THE TIED CARD OF 'exequaturlaw06.JwsHeads'. -/
def jwsHeadsCard : Claim7 := { stood := { row := jwsHeadsRow, standIns := [], harness := (true, "8362d8f23bb5e2a69265dfb8604e3ef2ab56570eeef23becf91c76ca87772146"), looks := true }, kinds := [], alts := [], laidByText := true, laidKinds := [.data, .data, .data, .data, .data, .data, .pinned], laidTests := true, laidLooks := .later }
def JwsHeadsCardSaid : Prop := Claim7.holds Tryz.pinned (.plain (OpenSpec.ofChange jwsHeadsSpec)) jwsHeadsCard

/-- THE TIED CARD OF 'exequaturlaw05.JsonReads'. -/
def jsonReadsCard : Claim7 := { stood := { row := jsonReadsRow, standIns := [], harness := (true, "8362d8f23bb5e2a69265dfb8604e3ef2ab56570eeef23becf91c76ca87772146"), looks := true }, kinds := [], alts := [], laidByText := true, laidKinds := [.data, .data, .data, .data, .sentinel, .sentinel, .pinned], laidTests := true, laidLooks := .later }
def JsonReadsCardSaid : Prop := Claim7.holds Tryz.pinned (.plain (OpenSpec.ofChange jsonReadsSpec)) jsonReadsCard

/-- THE TIED CARD OF 'exequaturlaw05.JsonDeep'. -/
def jsonDeepCard : Claim7 := { stood := { row := jsonDeepRow, standIns := [], harness := (true, "8362d8f23bb5e2a69265dfb8604e3ef2ab56570eeef23becf91c76ca87772146"), looks := true }, kinds := [], alts := [], laidByText := true, laidKinds := [.data, .data, .data, .data, .sentinel, .sentinel, .pinned], laidTests := true, laidLooks := .later }
def JsonDeepCardSaid : Prop := Claim7.holds Tryz.pinned (.plain (OpenSpec.ofChange jsonDeepSpec)) jsonDeepCard

/-- THE TIED CARD OF 'exequaturlaw05.JsonOwn'. -/
def jsonOwnCard : Claim7 := { stood := { row := jsonOwnRow, standIns := [], harness := (true, "8362d8f23bb5e2a69265dfb8604e3ef2ab56570eeef23becf91c76ca87772146"), looks := true }, kinds := [], alts := [], laidByText := true, laidKinds := [.data, .data, .data, .data, .sentinel, .sentinel, .pinned], laidTests := true, laidLooks := .later }
def JsonOwnCardSaid : Prop := Claim7.holds Tryz.pinned (.plain (OpenSpec.ofChange jsonOwnSpec)) jsonOwnCard

/-- THE TIED CARD OF 'exequaturlaw05.JsonObject'. -/
def jsonObjectCard : Claim7 := { stood := { row := jsonObjectRow, standIns := [], harness := (true, "8362d8f23bb5e2a69265dfb8604e3ef2ab56570eeef23becf91c76ca87772146"), looks := true }, kinds := [], alts := [], laidByText := true, laidKinds := [.data, .data, .data, .data, .sentinel, .sentinel, .pinned], laidTests := true, laidLooks := .later }
def JsonObjectCardSaid : Prop := Claim7.holds Tryz.pinned (.plain (OpenSpec.ofChange jsonObjectSpec)) jsonObjectCard

/-- THE TIED CARD OF 'exequaturlaw05.JsonBack'. -/
def jsonBackCard : Claim7 := { stood := { row := jsonBackRow, standIns := [], harness := (true, "8362d8f23bb5e2a69265dfb8604e3ef2ab56570eeef23becf91c76ca87772146"), looks := true }, kinds := [], alts := [], laidByText := true, laidKinds := [.data, .data, .data, .data, .sentinel, .sentinel, .pinned], laidTests := true, laidLooks := .later }
def JsonBackCardSaid : Prop := Claim7.holds Tryz.pinned (.plain (OpenSpec.ofChange jsonBackSpec)) jsonBackCard

/-- THE TIED CARD OF 'exequaturlaw05.JsonFields'. -/
def jsonFieldsCard : Claim7 := { stood := { row := jsonFieldsRow, standIns := [], harness := (true, "8362d8f23bb5e2a69265dfb8604e3ef2ab56570eeef23becf91c76ca87772146"), looks := true }, kinds := [], alts := [], laidByText := true, laidKinds := [.data, .data, .data, .data, .sentinel, .sentinel, .pinned], laidTests := true, laidLooks := .later }
def JsonFieldsCardSaid : Prop := Claim7.holds Tryz.pinned (.plain (OpenSpec.ofChange jsonFieldsSpec)) jsonFieldsCard

/-- THE TIED CARD OF 'exequaturlaw08.ClaimsMake'. -/
def claimsMakeCard : Claim7 := { stood := { row := claimsMakeRow, standIns := [], harness := (true, "8362d8f23bb5e2a69265dfb8604e3ef2ab56570eeef23becf91c76ca87772146"), looks := true }, kinds := [], alts := [], laidByText := true, laidKinds := [.data, .data, .data, .data, .sentinel, .sentinel, .pinned], laidTests := true, laidLooks := .later }
def ClaimsMakeCardSaid : Prop := Claim7.holds Tryz.pinned (.plain (OpenSpec.ofChange claimsMakeSpec)) claimsMakeCard

/-- THE TIED CARD OF 'exequaturlaw08.ClaimsCheck'. -/
def claimsCheckCard : Claim7 := { stood := { row := claimsCheckRow, standIns := [], harness := (true, "8362d8f23bb5e2a69265dfb8604e3ef2ab56570eeef23becf91c76ca87772146"), looks := true }, kinds := [], alts := [], laidByText := true, laidKinds := [.data, .data, .data, .data, .sentinel, .sentinel, .pinned], laidTests := true, laidLooks := .later }
def ClaimsCheckCardSaid : Prop := Claim7.holds Tryz.pinned (.plain (OpenSpec.ofChange claimsCheckSpec)) claimsCheckCard

/-- THE TIED CARD OF 'exequaturlaw08.ClaimsFit'. -/
def claimsFitCard : Claim7 := { stood := { row := claimsFitRow, standIns := [], harness := (true, "8362d8f23bb5e2a69265dfb8604e3ef2ab56570eeef23becf91c76ca87772146"), looks := true }, kinds := [], alts := [], laidByText := true, laidKinds := [.data, .data, .data, .data, .sentinel, .sentinel, .pinned], laidTests := true, laidLooks := .later }
def ClaimsFitCardSaid : Prop := Claim7.holds Tryz.pinned (.plain (OpenSpec.ofChange claimsFitSpec)) claimsFitCard

/-- THE TIED CARD OF 'exequaturlaw08.ClaimsWrong'. -/
def claimsWrongCard : Claim7 := { stood := { row := claimsWrongRow, standIns := [], harness := (true, "8362d8f23bb5e2a69265dfb8604e3ef2ab56570eeef23becf91c76ca87772146"), looks := true }, kinds := [], alts := [], laidByText := true, laidKinds := [.data, .data, .data, .data, .sentinel, .sentinel, .pinned], laidTests := true, laidLooks := .later }
def ClaimsWrongCardSaid : Prop := Claim7.holds Tryz.pinned (.plain (OpenSpec.ofChange claimsWrongSpec)) claimsWrongCard

/-- THE TIED CARD OF 'exequaturlaw08.ClaimsKeys'. -/
def claimsKeysCard : Claim7 := { stood := { row := claimsKeysRow, standIns := [], harness := (true, "8362d8f23bb5e2a69265dfb8604e3ef2ab56570eeef23becf91c76ca87772146"), looks := true }, kinds := [], alts := [], laidByText := true, laidKinds := [.data, .data, .data, .data, .sentinel, .sentinel, .pinned], laidTests := true, laidLooks := .later }
def ClaimsKeysCardSaid : Prop := Claim7.holds Tryz.pinned (.plain (OpenSpec.ofChange claimsKeysSpec)) claimsKeysCard

/-- THE TIED CARD OF 'exequaturlaw07.JwkBack'. -/
def jwkBackCard : Claim7 := { stood := { row := jwkBackRow, standIns := [], harness := (true, "8362d8f23bb5e2a69265dfb8604e3ef2ab56570eeef23becf91c76ca87772146"), looks := true }, kinds := [], alts := [], laidByText := true, laidKinds := [.data, .data, .data, .data, .sentinel, .sentinel, .pinned], laidTests := true, laidLooks := .later }
def JwkBackCardSaid : Prop := Claim7.holds Tryz.pinned (.plain (OpenSpec.ofChange jwkBackSpec)) jwkBackCard

/-- THE TIED CARD OF 'exequaturlaw07.JwkReads'. -/
def jwkReadsCard : Claim7 := { stood := { row := jwkReadsRow, standIns := [], harness := (true, "8362d8f23bb5e2a69265dfb8604e3ef2ab56570eeef23becf91c76ca87772146"), looks := true }, kinds := [], alts := [], laidByText := true, laidKinds := [.data, .data, .data, .data, .sentinel, .sentinel, .pinned], laidTests := true, laidLooks := .later }
def JwkReadsCardSaid : Prop := Claim7.holds Tryz.pinned (.plain (OpenSpec.ofChange jwkReadsSpec)) jwkReadsCard

/-- THE TIED CARD OF 'exequaturlaw07.JwkCuts'. -/
def jwkCutsCard : Claim7 := { stood := { row := jwkCutsRow, standIns := [], harness := (true, "8362d8f23bb5e2a69265dfb8604e3ef2ab56570eeef23becf91c76ca87772146"), looks := true }, kinds := [], alts := [], laidByText := true, laidKinds := [.data, .data, .data, .data, .sentinel, .sentinel, .pinned], laidTests := true, laidLooks := .later }
def JwkCutsCardSaid : Prop := Claim7.holds Tryz.pinned (.plain (OpenSpec.ofChange jwkCutsSpec)) jwkCutsCard

/-- THE SECOND FORM's CARD OF 'exequaturlaw06.JwsSigns'. -/
def jwsSignsUptoCard : Claim7 := { stood := { row := jwsSignsUptoRow, standIns := [], harness := (true, "8362d8f23bb5e2a69265dfb8604e3ef2ab56570eeef23becf91c76ca87772146"), looks := true }, kinds := [], alts := [], laidByText := true, laidKinds := [.data, .data, .data, .data, .data, .data, .pinned], laidTests := true, laidLooks := .later }
def JwsSignsUptoCardSaid : Prop := Claim7.holds Tryz.pinned (.plain (OpenSpec.upto jwsSignsSpec)) jwsSignsUptoCard

/-- THE SECOND FORM's CARD OF 'exequaturlaw06.JwsReads'. -/
def jwsReadsUptoCard : Claim7 := { stood := { row := jwsReadsUptoRow, standIns := [], harness := (true, "8362d8f23bb5e2a69265dfb8604e3ef2ab56570eeef23becf91c76ca87772146"), looks := true }, kinds := [], alts := [], laidByText := true, laidKinds := [.data, .data, .data, .data, .data, .data, .pinned], laidTests := true, laidLooks := .later }
def JwsReadsUptoCardSaid : Prop := Claim7.holds Tryz.pinned (.plain (OpenSpec.upto jwsReadsSpec)) jwsReadsUptoCard

/-- THE SECOND FORM's CARD OF 'exequaturlaw06.JwsHeads'. -/
def jwsHeadsUptoCard : Claim7 := { stood := { row := jwsHeadsUptoRow, standIns := [], harness := (true, "8362d8f23bb5e2a69265dfb8604e3ef2ab56570eeef23becf91c76ca87772146"), looks := true }, kinds := [], alts := [], laidByText := true, laidKinds := [.data, .data, .data, .data, .data, .data, .pinned], laidTests := true, laidLooks := .later }
def JwsHeadsUptoCardSaid : Prop := Claim7.holds Tryz.pinned (.plain (OpenSpec.upto jwsHeadsSpec)) jwsHeadsUptoCard

/-- THE SECOND FORM's CARD OF 'exequaturlaw05.JsonReads'. -/
def jsonReadsUptoCard : Claim7 := { stood := { row := jsonReadsUptoRow, standIns := [], harness := (true, "8362d8f23bb5e2a69265dfb8604e3ef2ab56570eeef23becf91c76ca87772146"), looks := true }, kinds := [], alts := [], laidByText := true, laidKinds := [.data, .data, .data, .data, .sentinel, .sentinel, .pinned], laidTests := true, laidLooks := .later }
def JsonReadsUptoCardSaid : Prop := Claim7.holds Tryz.pinned (.plain (OpenSpec.upto jsonReadsSpec)) jsonReadsUptoCard

/-- THE SECOND FORM's CARD OF 'exequaturlaw05.JsonDeep'. -/
def jsonDeepUptoCard : Claim7 := { stood := { row := jsonDeepUptoRow, standIns := [], harness := (true, "8362d8f23bb5e2a69265dfb8604e3ef2ab56570eeef23becf91c76ca87772146"), looks := true }, kinds := [], alts := [], laidByText := true, laidKinds := [.data, .data, .data, .data, .sentinel, .sentinel, .pinned], laidTests := true, laidLooks := .later }
def JsonDeepUptoCardSaid : Prop := Claim7.holds Tryz.pinned (.plain (OpenSpec.upto jsonDeepSpec)) jsonDeepUptoCard

/-- THE SECOND FORM's CARD OF 'exequaturlaw05.JsonOwn'. -/
def jsonOwnUptoCard : Claim7 := { stood := { row := jsonOwnUptoRow, standIns := [], harness := (true, "8362d8f23bb5e2a69265dfb8604e3ef2ab56570eeef23becf91c76ca87772146"), looks := true }, kinds := [], alts := [], laidByText := true, laidKinds := [.data, .data, .data, .data, .sentinel, .sentinel, .pinned], laidTests := true, laidLooks := .later }
def JsonOwnUptoCardSaid : Prop := Claim7.holds Tryz.pinned (.plain (OpenSpec.upto jsonOwnSpec)) jsonOwnUptoCard

/-- THE SECOND FORM's CARD OF 'exequaturlaw05.JsonObject'. -/
def jsonObjectUptoCard : Claim7 := { stood := { row := jsonObjectUptoRow, standIns := [], harness := (true, "8362d8f23bb5e2a69265dfb8604e3ef2ab56570eeef23becf91c76ca87772146"), looks := true }, kinds := [], alts := [], laidByText := true, laidKinds := [.data, .data, .data, .data, .sentinel, .sentinel, .pinned], laidTests := true, laidLooks := .later }
def JsonObjectUptoCardSaid : Prop := Claim7.holds Tryz.pinned (.plain (OpenSpec.upto jsonObjectSpec)) jsonObjectUptoCard

/-- THE SECOND FORM's CARD OF 'exequaturlaw05.JsonBack'. -/
def jsonBackUptoCard : Claim7 := { stood := { row := jsonBackUptoRow, standIns := [], harness := (true, "8362d8f23bb5e2a69265dfb8604e3ef2ab56570eeef23becf91c76ca87772146"), looks := true }, kinds := [], alts := [], laidByText := true, laidKinds := [.data, .data, .data, .data, .sentinel, .sentinel, .pinned], laidTests := true, laidLooks := .later }
def JsonBackUptoCardSaid : Prop := Claim7.holds Tryz.pinned (.plain (OpenSpec.upto jsonBackSpec)) jsonBackUptoCard

/-- THE SECOND FORM's CARD OF 'exequaturlaw05.JsonFields'. -/
def jsonFieldsUptoCard : Claim7 := { stood := { row := jsonFieldsUptoRow, standIns := [], harness := (true, "8362d8f23bb5e2a69265dfb8604e3ef2ab56570eeef23becf91c76ca87772146"), looks := true }, kinds := [], alts := [], laidByText := true, laidKinds := [.data, .data, .data, .data, .sentinel, .sentinel, .pinned], laidTests := true, laidLooks := .later }
def JsonFieldsUptoCardSaid : Prop := Claim7.holds Tryz.pinned (.plain (OpenSpec.upto jsonFieldsSpec)) jsonFieldsUptoCard

/-- THE SECOND FORM's CARD OF 'exequaturlaw08.ClaimsMake'. -/
def claimsMakeUptoCard : Claim7 := { stood := { row := claimsMakeUptoRow, standIns := [], harness := (true, "8362d8f23bb5e2a69265dfb8604e3ef2ab56570eeef23becf91c76ca87772146"), looks := true }, kinds := [], alts := [], laidByText := true, laidKinds := [.data, .data, .data, .data, .sentinel, .sentinel, .pinned], laidTests := true, laidLooks := .later }
def ClaimsMakeUptoCardSaid : Prop := Claim7.holds Tryz.pinned (.plain (OpenSpec.upto claimsMakeSpec)) claimsMakeUptoCard

/-- THE SECOND FORM's CARD OF 'exequaturlaw08.ClaimsCheck'. -/
def claimsCheckUptoCard : Claim7 := { stood := { row := claimsCheckUptoRow, standIns := [], harness := (true, "8362d8f23bb5e2a69265dfb8604e3ef2ab56570eeef23becf91c76ca87772146"), looks := true }, kinds := [], alts := [], laidByText := true, laidKinds := [.data, .data, .data, .data, .sentinel, .sentinel, .pinned], laidTests := true, laidLooks := .later }
def ClaimsCheckUptoCardSaid : Prop := Claim7.holds Tryz.pinned (.plain (OpenSpec.upto claimsCheckSpec)) claimsCheckUptoCard

/-- THE SECOND FORM's CARD OF 'exequaturlaw08.ClaimsFit'. -/
def claimsFitUptoCard : Claim7 := { stood := { row := claimsFitUptoRow, standIns := [], harness := (true, "8362d8f23bb5e2a69265dfb8604e3ef2ab56570eeef23becf91c76ca87772146"), looks := true }, kinds := [], alts := [], laidByText := true, laidKinds := [.data, .data, .data, .data, .sentinel, .sentinel, .pinned], laidTests := true, laidLooks := .later }
def ClaimsFitUptoCardSaid : Prop := Claim7.holds Tryz.pinned (.plain (OpenSpec.upto claimsFitSpec)) claimsFitUptoCard

/-- THE SECOND FORM's CARD OF 'exequaturlaw08.ClaimsWrong'. -/
def claimsWrongUptoCard : Claim7 := { stood := { row := claimsWrongUptoRow, standIns := [], harness := (true, "8362d8f23bb5e2a69265dfb8604e3ef2ab56570eeef23becf91c76ca87772146"), looks := true }, kinds := [], alts := [], laidByText := true, laidKinds := [.data, .data, .data, .data, .sentinel, .sentinel, .pinned], laidTests := true, laidLooks := .later }
def ClaimsWrongUptoCardSaid : Prop := Claim7.holds Tryz.pinned (.plain (OpenSpec.upto claimsWrongSpec)) claimsWrongUptoCard

/-- THE SECOND FORM's CARD OF 'exequaturlaw08.ClaimsKeys'. -/
def claimsKeysUptoCard : Claim7 := { stood := { row := claimsKeysUptoRow, standIns := [], harness := (true, "8362d8f23bb5e2a69265dfb8604e3ef2ab56570eeef23becf91c76ca87772146"), looks := true }, kinds := [], alts := [], laidByText := true, laidKinds := [.data, .data, .data, .data, .sentinel, .sentinel, .pinned], laidTests := true, laidLooks := .later }
def ClaimsKeysUptoCardSaid : Prop := Claim7.holds Tryz.pinned (.plain (OpenSpec.upto claimsKeysSpec)) claimsKeysUptoCard

/-- THE SECOND FORM's CARD OF 'exequaturlaw07.JwkBack'. -/
def jwkBackUptoCard : Claim7 := { stood := { row := jwkBackUptoRow, standIns := [], harness := (true, "8362d8f23bb5e2a69265dfb8604e3ef2ab56570eeef23becf91c76ca87772146"), looks := true }, kinds := [], alts := [], laidByText := true, laidKinds := [.data, .data, .data, .data, .sentinel, .sentinel, .pinned], laidTests := true, laidLooks := .later }
def JwkBackUptoCardSaid : Prop := Claim7.holds Tryz.pinned (.plain (OpenSpec.upto jwkBackSpec)) jwkBackUptoCard

/-- THE SECOND FORM's CARD OF 'exequaturlaw07.JwkReads'. -/
def jwkReadsUptoCard : Claim7 := { stood := { row := jwkReadsUptoRow, standIns := [], harness := (true, "8362d8f23bb5e2a69265dfb8604e3ef2ab56570eeef23becf91c76ca87772146"), looks := true }, kinds := [], alts := [], laidByText := true, laidKinds := [.data, .data, .data, .data, .sentinel, .sentinel, .pinned], laidTests := true, laidLooks := .later }
def JwkReadsUptoCardSaid : Prop := Claim7.holds Tryz.pinned (.plain (OpenSpec.upto jwkReadsSpec)) jwkReadsUptoCard

/-- THE SECOND FORM's CARD OF 'exequaturlaw07.JwkCuts'. -/
def jwkCutsUptoCard : Claim7 := { stood := { row := jwkCutsUptoRow, standIns := [], harness := (true, "8362d8f23bb5e2a69265dfb8604e3ef2ab56570eeef23becf91c76ca87772146"), looks := true }, kinds := [], alts := [], laidByText := true, laidKinds := [.data, .data, .data, .data, .sentinel, .sentinel, .pinned], laidTests := true, laidLooks := .later }
def JwkCutsUptoCardSaid : Prop := Claim7.holds Tryz.pinned (.plain (OpenSpec.upto jwkCutsSpec)) jwkCutsUptoCard
end Rows
end Go.Proofs.YtiddjadfkpjpdaaGreatDoor
