/-
  WalletNones: closed facts of the card.
-/
import Derived.Test.YtgpoclcmapnloaaGreatDoorRows
import Derived.Test.YtgpoclcmapnloaaGreatDoorCards
import Derived.SevenTiedAt
import Derived.KernelRfl
namespace Go.Proofs.YtgpoclcmapnloaaGreatDoor
open Go
set_option linter.unusedVariables false
set_option linter.unusedSimpArgs false
set_option maxRecDepth 100000
theorem looksIs : true = Tryz.prog.looks [] := by kernel_rfl
theorem noGo : Tryz.prog.funcs.any Func.goes = false := by kernel_rfl
theorem goes_none {P : Program} (h : P.funcs.any Func.goes = false) (f : FuncId) : P.goes f = false := by
  have h' : ∀ g : FuncId, (P.funcs[g]?).any Func.goes = false := by
    intro g
    cases hf : P.funcs[g]? with
    | none => rfl
    | some fn =>
      cases hb : Func.goes fn with
      | false => simpa using hb
      | true =>
        have h1 : P.funcs.any Func.goes = true := Array.any_eq_true'.2 ⟨fn, Array.mem_of_getElem? hf, hb⟩
        rw [h] at h1; cases h1
  unfold Program.goes
  simp [h, h']
theorem goesIs : false = Rows.walletNonesRow.goesBy Tryz.checked.prog := by
  have h : ∀ f, Tryz.checked.prog.goes f = false := fun f => goes_none (P := Tryz.prog) noGo f
  unfold OpenClaim.goesBy Program.goesAt Program.goesFrom
  cases hf : Tryz.checked.prog.funcNamed Rows.walletNonesRow.func with
  | none => rfl
  | some f => simp [h f, show Rows.walletNonesRow.start = .entering from rfl]
theorem mainIs : Tryz.checked.prog.mainIs = some (Rows.walletNonesCard.stood.harness.1, Rows.walletNonesCard.stood.harness.2.toList) := by kernel_rfl
theorem wfText : Rows.walletNonesRow.wfByText (OpenSpec.ofChange Rows.walletNonesSpec) = true := by kernel_rfl
theorem noOwnUnsafe : Tryz.pinned.checked.prog.headLifts.contains "ownunsafe" = false := by kernel_rfl
end Go.Proofs.YtgpoclcmapnloaaGreatDoor
