/-
  DERIVED. GIVEN WITH THE SEED: THE CARDS: each row of YtgpoclcmapnloaaGreatDoorRows.lean that lists a variable, with what it lists TIED to the program's text (the seventh form; the later family's looks); each row that meets fmt, with fmt's text TOLD by the authors' own Lean function (tested against real Go, not proved from fmt's source: count such statements apart). THE CARD IS WHAT COUNTS. Prove the row's statement (the work); the ties are given (YtgpoclcmapnloaaGreatDoorTie.lean); close each card by the builder's one call (the guide's Derived/Test/ToyasCard.lean, 'card_holds'). Laid BY PROGRAM, IN A SANDBOX (cutbox-door.mjs). By AI agents, Wed Nov 11 2026. No macro, syntax, notation, axiom, sorry.
-/
import Derived.Test.YtgpoclcmapnloaaGreatDoorRows
import GoSem.ClaimSeven
namespace Go.Proofs.YtgpoclcmapnloaaGreatDoor
namespace Rows

/-- THE TIED CARD OF 'baizelaw56.WalletNones'. -/
def walletNonesCard : Claim7 := { stood := { row := walletNonesRow, standIns := [], harness := (true, "94b8b35036e3a0852def9db695870bc04ba4012502a5ff5cfb983af87f452c40"), looks := true }, kinds := [], alts := [], laidByText := true, laidKinds := [.data, .data, .data], laidTests := true, laidLooks := .later }
def WalletNonesCardSaid : Prop := Claim7.holds Tryz.pinned (.plain (OpenSpec.ofChange walletNonesSpec)) walletNonesCard

/-- THE SECOND FORM's CARD OF 'baizelaw56.WalletNones'. -/
def walletNonesUptoCard : Claim7 := { stood := { row := walletNonesUptoRow, standIns := [], harness := (true, "94b8b35036e3a0852def9db695870bc04ba4012502a5ff5cfb983af87f452c40"), looks := true }, kinds := [], alts := [], laidByText := true, laidKinds := [.data, .data, .data], laidTests := true, laidLooks := .later }
def WalletNonesUptoCardSaid : Prop := Claim7.holds Tryz.pinned (.plain (OpenSpec.upto walletNonesSpec)) walletNonesUptoCard
end Rows
end Go.Proofs.YtgpoclcmapnloaaGreatDoor
