/-
  DERIVED. GIVEN WITH THE SEED: THE CARDS: each row of YtnijnemkjnnolaaDoorRows.lean that lists a variable, with what it lists TIED to the program's text (the seventh form; the later family's looks); each row that meets fmt, with fmt's text TOLD by the authors' own Lean function (tested against real Go, not proved from fmt's source: count such statements apart). THE CARD IS WHAT COUNTS. Prove the row's statement (the work); the ties are given (YtnijnemkjnnolaaDoorTie.lean); close each card by the builder's one call (the guide's Derived/Test/ToyasCard.lean, 'card_holds'). Laid BY PROGRAM, IN A SANDBOX (cutbox-door.mjs). By AI agents, Wed Nov 11 2026. No macro, syntax, notation, axiom, sorry.
-/
import Derived.Test.YtnijnemkjnnolaaDoorRows
import GoSem.ClaimSeven
namespace Go.Proofs.YtnijnemkjnnolaaDoor
namespace Rows

/-- THE TIED CARD OF 'transhumancelaw5.BraceDeep'. -/
def braceDeepCard : Claim7 := { stood := { row := braceDeepRow, standIns := [], harness := (true, "e8e3d14cb5e2a7414f08c71e5e27afa296e58e238586ae228be527a0b1331eae"), looks := false }, kinds := [], alts := [], laidByText := true, laidKinds := [.data, .data, .data, .sentinel], laidTests := true, laidLooks := .later }
def BraceDeepCardSaid : Prop := Claim7.holds Tryd.pinned (.plain (OpenSpec.ofChange braceDeepSpec)) braceDeepCard

/-- THE TIED CARD OF 'transhumancelaw5.BraceKeys'. -/
def braceKeysCard : Claim7 := { stood := { row := braceKeysRow, standIns := [], harness := (true, "e8e3d14cb5e2a7414f08c71e5e27afa296e58e238586ae228be527a0b1331eae"), looks := false }, kinds := [], alts := [], laidByText := true, laidKinds := [.data, .data, .data, .sentinel], laidTests := true, laidLooks := .later }
def BraceKeysCardSaid : Prop := Claim7.holds Tryd.pinned (.plain (OpenSpec.ofChange braceKeysSpec)) braceKeysCard

/-- THE TIED CARD OF 'transhumancelaw5.BraceLong'. -/
def braceLongCard : Claim7 := { stood := { row := braceLongRow, standIns := [], harness := (true, "e8e3d14cb5e2a7414f08c71e5e27afa296e58e238586ae228be527a0b1331eae"), looks := false }, kinds := [], alts := [], laidByText := true, laidKinds := [.data, .data, .data, .sentinel], laidTests := true, laidLooks := .later }
def BraceLongCardSaid : Prop := Claim7.holds Tryd.pinned (.plain (OpenSpec.ofChange braceLongSpec)) braceLongCard

/-- THE SECOND FORM's CARD OF 'transhumancelaw5.BraceDeep'. -/
def braceDeepUptoCard : Claim7 := { stood := { row := braceDeepUptoRow, standIns := [], harness := (true, "e8e3d14cb5e2a7414f08c71e5e27afa296e58e238586ae228be527a0b1331eae"), looks := false }, kinds := [], alts := [], laidByText := true, laidKinds := [.data, .data, .data, .sentinel], laidTests := true, laidLooks := .later }
def BraceDeepUptoCardSaid : Prop := Claim7.holds Tryd.pinned (.plain (OpenSpec.upto braceDeepSpec)) braceDeepUptoCard

/-- THE SECOND FORM's CARD OF 'transhumancelaw5.BraceKeys'. -/
def braceKeysUptoCard : Claim7 := { stood := { row := braceKeysUptoRow, standIns := [], harness := (true, "e8e3d14cb5e2a7414f08c71e5e27afa296e58e238586ae228be527a0b1331eae"), looks := false }, kinds := [], alts := [], laidByText := true, laidKinds := [.data, .data, .data, .sentinel], laidTests := true, laidLooks := .later }
def BraceKeysUptoCardSaid : Prop := Claim7.holds Tryd.pinned (.plain (OpenSpec.upto braceKeysSpec)) braceKeysUptoCard

/-- THE SECOND FORM's CARD OF 'transhumancelaw5.BraceLong'. -/
def braceLongUptoCard : Claim7 := { stood := { row := braceLongUptoRow, standIns := [], harness := (true, "e8e3d14cb5e2a7414f08c71e5e27afa296e58e238586ae228be527a0b1331eae"), looks := false }, kinds := [], alts := [], laidByText := true, laidKinds := [.data, .data, .data, .sentinel], laidTests := true, laidLooks := .later }
def BraceLongUptoCardSaid : Prop := Claim7.holds Tryd.pinned (.plain (OpenSpec.upto braceLongSpec)) braceLongUptoCard
end Rows
end Go.Proofs.YtnijnemkjnnolaaDoor
