/-
  DERIVED. GIVEN WITH THE SEED: THE CARDS: each row of YtldfghgjllaljaaGreatDoorRows.lean that lists a variable, with what it lists TIED to the program's text (the seventh form; the later family's looks); each row that meets fmt, with fmt's text TOLD by the authors' own Lean function (tested against real Go, not proved from fmt's source: count such statements apart). THE CARD IS WHAT COUNTS. Prove the row's statement (the work); the ties are given (YtldfghgjllaljaaGreatDoorTie.lean); close each card by the builder's one call (the guide's Derived/Test/ToyasCard.lean, 'card_holds'). Laid BY PROGRAM, IN A SANDBOX (cutbox-door.mjs). By AI agents, Wed Nov 11 2026. No macro, syntax, notation, axiom, sorry.
-/
import Derived.Test.YtldfghgjllaljaaGreatDoorRows
import GoSem.ClaimSeven
namespace Go.Proofs.YtldfghgjllaljaaGreatDoor
namespace Rows

/-- THE TIED CARD OF 'counterpanelaw17.CodecTells'. -/
def codecTellsCard : Claim7 := { stood := { row := codecTellsRow, standIns := [], harness := (true, "7d144916999515001790ce00c113566978b16dbbd6d0ec60daeeddbf931e27a7"), looks := false }, kinds := [], alts := [], laidByText := true, laidKinds := [.data, .data, .data, .data, .pinned], laidTests := true, laidLooks := .later }
def CodecTellsCardSaid : Prop := Claim7.holds Tryz.pinned (.plain (OpenSpec.ofChange codecTellsSpec)) codecTellsCard

/-- THE TIED CARD OF 'counterpanelaw17.CodecBack'. -/
def codecBackCard : Claim7 := { stood := { row := codecBackRow, standIns := [], harness := (true, "7d144916999515001790ce00c113566978b16dbbd6d0ec60daeeddbf931e27a7"), looks := false }, kinds := [], alts := [], laidByText := true, laidKinds := [.data, .data, .data, .data, .pinned], laidTests := true, laidLooks := .later }
def CodecBackCardSaid : Prop := Claim7.holds Tryz.pinned (.plain (OpenSpec.ofChange codecBackSpec)) codecBackCard

/-- THE TIED CARD OF 'counterpanelaw17.CodecBundles'. -/
def codecBundlesCard : Claim7 := { stood := { row := codecBundlesRow, standIns := [], harness := (true, "7d144916999515001790ce00c113566978b16dbbd6d0ec60daeeddbf931e27a7"), looks := false }, kinds := [], alts := [], laidByText := true, laidKinds := [.data, .data, .data, .data, .pinned], laidTests := true, laidLooks := .later }
def CodecBundlesCardSaid : Prop := Claim7.holds Tryz.pinned (.plain (OpenSpec.ofChange codecBundlesSpec)) codecBundlesCard

/-- THE TIED CARD OF 'counterpanelaw17.CodecCut'. -/
def codecCutCard : Claim7 := { stood := { row := codecCutRow, standIns := [], harness := (true, "7d144916999515001790ce00c113566978b16dbbd6d0ec60daeeddbf931e27a7"), looks := false }, kinds := [], alts := [], laidByText := true, laidKinds := [.data, .data, .data, .data, .pinned], laidTests := true, laidLooks := .later }
def CodecCutCardSaid : Prop := Claim7.holds Tryz.pinned (.plain (OpenSpec.ofChange codecCutSpec)) codecCutCard

/-- THE TIED CARD OF 'counterpanelaw17.CodecOrder'. -/
def codecOrderCard : Claim7 := { stood := { row := codecOrderRow, standIns := [], harness := (true, "7d144916999515001790ce00c113566978b16dbbd6d0ec60daeeddbf931e27a7"), looks := false }, kinds := [], alts := [], laidByText := true, laidKinds := [.data, .data, .data, .data, .pinned], laidTests := true, laidLooks := .later }
def CodecOrderCardSaid : Prop := Claim7.holds Tryz.pinned (.plain (OpenSpec.ofChange codecOrderSpec)) codecOrderCard

/-- THE SECOND FORM's CARD OF 'counterpanelaw17.CodecTells'. -/
def codecTellsUptoCard : Claim7 := { stood := { row := codecTellsUptoRow, standIns := [], harness := (true, "7d144916999515001790ce00c113566978b16dbbd6d0ec60daeeddbf931e27a7"), looks := false }, kinds := [], alts := [], laidByText := true, laidKinds := [.data, .data, .data, .data, .pinned], laidTests := true, laidLooks := .later }
def CodecTellsUptoCardSaid : Prop := Claim7.holds Tryz.pinned (.plain (OpenSpec.upto codecTellsSpec)) codecTellsUptoCard

/-- THE SECOND FORM's CARD OF 'counterpanelaw17.CodecBack'. -/
def codecBackUptoCard : Claim7 := { stood := { row := codecBackUptoRow, standIns := [], harness := (true, "7d144916999515001790ce00c113566978b16dbbd6d0ec60daeeddbf931e27a7"), looks := false }, kinds := [], alts := [], laidByText := true, laidKinds := [.data, .data, .data, .data, .pinned], laidTests := true, laidLooks := .later }
def CodecBackUptoCardSaid : Prop := Claim7.holds Tryz.pinned (.plain (OpenSpec.upto codecBackSpec)) codecBackUptoCard

/-- THE SECOND FORM's CARD OF 'counterpanelaw17.CodecBundles'. -/
def codecBundlesUptoCard : Claim7 := { stood := { row := codecBundlesUptoRow, standIns := [], harness := (true, "7d144916999515001790ce00c113566978b16dbbd6d0ec60daeeddbf931e27a7"), looks := false }, kinds := [], alts := [], laidByText := true, laidKinds := [.data, .data, .data, .data, .pinned], laidTests := true, laidLooks := .later }
def CodecBundlesUptoCardSaid : Prop := Claim7.holds Tryz.pinned (.plain (OpenSpec.upto codecBundlesSpec)) codecBundlesUptoCard

/-- THE SECOND FORM's CARD OF 'counterpanelaw17.CodecCut'. -/
def codecCutUptoCard : Claim7 := { stood := { row := codecCutUptoRow, standIns := [], harness := (true, "7d144916999515001790ce00c113566978b16dbbd6d0ec60daeeddbf931e27a7"), looks := false }, kinds := [], alts := [], laidByText := true, laidKinds := [.data, .data, .data, .data, .pinned], laidTests := true, laidLooks := .later }
def CodecCutUptoCardSaid : Prop := Claim7.holds Tryz.pinned (.plain (OpenSpec.upto codecCutSpec)) codecCutUptoCard

/-- THE SECOND FORM's CARD OF 'counterpanelaw17.CodecOrder'. -/
def codecOrderUptoCard : Claim7 := { stood := { row := codecOrderUptoRow, standIns := [], harness := (true, "7d144916999515001790ce00c113566978b16dbbd6d0ec60daeeddbf931e27a7"), looks := false }, kinds := [], alts := [], laidByText := true, laidKinds := [.data, .data, .data, .data, .pinned], laidTests := true, laidLooks := .later }
def CodecOrderUptoCardSaid : Prop := Claim7.holds Tryz.pinned (.plain (OpenSpec.upto codecOrderSpec)) codecOrderUptoCard
end Rows
end Go.Proofs.YtldfghgjllaljaaGreatDoor
