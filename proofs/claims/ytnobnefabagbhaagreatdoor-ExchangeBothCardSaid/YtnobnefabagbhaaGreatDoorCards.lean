/-
  DERIVED. GIVEN WITH THE SEED: THE CARDS: each row of YtnobnefabagbhaaGreatDoorRows.lean that lists a variable, with what it lists TIED to the program's text (the seventh form; the later family's looks); each row that meets fmt, with fmt's text TOLD by the authors' own Lean function (tested against real Go, not proved from fmt's source: count such statements apart). THE CARD IS WHAT COUNTS. Prove the row's statement (the work); the ties are given (YtnobnefabagbhaaGreatDoorTie.lean); close each card by the builder's one call (the guide's Derived/Test/ToyasCard.lean, 'card_holds'). Laid BY PROGRAM, IN A SANDBOX (cutbox-door.mjs). By AI agents, Wed Nov 11 2026. No macro, syntax, notation, axiom, sorry.
-/
import Derived.Test.YtnobnefabagbhaaGreatDoorRows
import GoSem.ClaimSeven
namespace Go.Proofs.YtnobnefabagbhaaGreatDoor
namespace Rows

/-- THE TIED CARD OF 'counterpanelaw21.ExchangeTells'. -/
def exchangeTellsCard : Claim7 := { stood := { row := exchangeTellsRow, standIns := [], harness := (true, "ab72ce79ebd35609ee28826bc8c0f246262b4a85ee21c7553daf00e61488253e"), looks := false }, kinds := [], alts := [], laidByText := true, laidKinds := [.data, .data, .data, .data, .pinned], laidTests := true, laidLooks := .later }
def ExchangeTellsCardSaid : Prop := Claim7.holds Tryz.pinned (.plain (OpenSpec.ofChange exchangeTellsSpec)) exchangeTellsCard

/-- THE TIED CARD OF 'counterpanelaw21.ExchangeCloses'. -/
def exchangeClosesCard : Claim7 := { stood := { row := exchangeClosesRow, standIns := [], harness := (true, "ab72ce79ebd35609ee28826bc8c0f246262b4a85ee21c7553daf00e61488253e"), looks := false }, kinds := [], alts := [], laidByText := true, laidKinds := [.data, .data, .data, .data, .pinned], laidTests := true, laidLooks := .later }
def ExchangeClosesCardSaid : Prop := Claim7.holds Tryz.pinned (.plain (OpenSpec.ofChange exchangeClosesSpec)) exchangeClosesCard

/-- THE TIED CARD OF 'counterpanelaw21.ExchangeOnce'. -/
def exchangeOnceCard : Claim7 := { stood := { row := exchangeOnceRow, standIns := [], harness := (true, "ab72ce79ebd35609ee28826bc8c0f246262b4a85ee21c7553daf00e61488253e"), looks := false }, kinds := [], alts := [], laidByText := true, laidKinds := [.data, .data, .data, .data, .pinned], laidTests := true, laidLooks := .later }
def ExchangeOnceCardSaid : Prop := Claim7.holds Tryz.pinned (.plain (OpenSpec.ofChange exchangeOnceSpec)) exchangeOnceCard

/-- THE TIED CARD OF 'counterpanelaw21.ExchangeNo'. -/
def exchangeNoCard : Claim7 := { stood := { row := exchangeNoRow, standIns := [], harness := (true, "ab72ce79ebd35609ee28826bc8c0f246262b4a85ee21c7553daf00e61488253e"), looks := false }, kinds := [], alts := [], laidByText := true, laidKinds := [.data, .data, .data, .data, .pinned], laidTests := true, laidLooks := .later }
def ExchangeNoCardSaid : Prop := Claim7.holds Tryz.pinned (.plain (OpenSpec.ofChange exchangeNoSpec)) exchangeNoCard

/-- THE TIED CARD OF 'counterpanelaw21.ExchangeBoth'. -/
def exchangeBothCard : Claim7 := { stood := { row := exchangeBothRow, standIns := [], harness := (true, "ab72ce79ebd35609ee28826bc8c0f246262b4a85ee21c7553daf00e61488253e"), looks := false }, kinds := [], alts := [], laidByText := true, laidKinds := [.data, .data, .data, .data, .pinned], laidTests := true, laidLooks := .later }
def ExchangeBothCardSaid : Prop := Claim7.holds Tryz.pinned (.plain (OpenSpec.ofChange exchangeBothSpec)) exchangeBothCard

/-- THE SECOND FORM's CARD OF 'counterpanelaw21.ExchangeTells'. -/
def exchangeTellsUptoCard : Claim7 := { stood := { row := exchangeTellsUptoRow, standIns := [], harness := (true, "ab72ce79ebd35609ee28826bc8c0f246262b4a85ee21c7553daf00e61488253e"), looks := false }, kinds := [], alts := [], laidByText := true, laidKinds := [.data, .data, .data, .data, .pinned], laidTests := true, laidLooks := .later }
def ExchangeTellsUptoCardSaid : Prop := Claim7.holds Tryz.pinned (.plain (OpenSpec.upto exchangeTellsSpec)) exchangeTellsUptoCard

/-- THE SECOND FORM's CARD OF 'counterpanelaw21.ExchangeCloses'. -/
def exchangeClosesUptoCard : Claim7 := { stood := { row := exchangeClosesUptoRow, standIns := [], harness := (true, "ab72ce79ebd35609ee28826bc8c0f246262b4a85ee21c7553daf00e61488253e"), looks := false }, kinds := [], alts := [], laidByText := true, laidKinds := [.data, .data, .data, .data, .pinned], laidTests := true, laidLooks := .later }
def ExchangeClosesUptoCardSaid : Prop := Claim7.holds Tryz.pinned (.plain (OpenSpec.upto exchangeClosesSpec)) exchangeClosesUptoCard

/-- THE SECOND FORM's CARD OF 'counterpanelaw21.ExchangeOnce'. -/
def exchangeOnceUptoCard : Claim7 := { stood := { row := exchangeOnceUptoRow, standIns := [], harness := (true, "ab72ce79ebd35609ee28826bc8c0f246262b4a85ee21c7553daf00e61488253e"), looks := false }, kinds := [], alts := [], laidByText := true, laidKinds := [.data, .data, .data, .data, .pinned], laidTests := true, laidLooks := .later }
def ExchangeOnceUptoCardSaid : Prop := Claim7.holds Tryz.pinned (.plain (OpenSpec.upto exchangeOnceSpec)) exchangeOnceUptoCard

/-- THE SECOND FORM's CARD OF 'counterpanelaw21.ExchangeNo'. -/
def exchangeNoUptoCard : Claim7 := { stood := { row := exchangeNoUptoRow, standIns := [], harness := (true, "ab72ce79ebd35609ee28826bc8c0f246262b4a85ee21c7553daf00e61488253e"), looks := false }, kinds := [], alts := [], laidByText := true, laidKinds := [.data, .data, .data, .data, .pinned], laidTests := true, laidLooks := .later }
def ExchangeNoUptoCardSaid : Prop := Claim7.holds Tryz.pinned (.plain (OpenSpec.upto exchangeNoSpec)) exchangeNoUptoCard

/-- THE SECOND FORM's CARD OF 'counterpanelaw21.ExchangeBoth'. -/
def exchangeBothUptoCard : Claim7 := { stood := { row := exchangeBothUptoRow, standIns := [], harness := (true, "ab72ce79ebd35609ee28826bc8c0f246262b4a85ee21c7553daf00e61488253e"), looks := false }, kinds := [], alts := [], laidByText := true, laidKinds := [.data, .data, .data, .data, .pinned], laidTests := true, laidLooks := .later }
def ExchangeBothUptoCardSaid : Prop := Claim7.holds Tryz.pinned (.plain (OpenSpec.upto exchangeBothSpec)) exchangeBothUptoCard
end Rows
end Go.Proofs.YtnobnefabagbhaaGreatDoor
