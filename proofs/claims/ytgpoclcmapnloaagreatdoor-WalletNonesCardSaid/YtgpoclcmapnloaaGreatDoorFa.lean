/-
  WalletNones: closed facts of the row.
-/
import Derived.Test.YtgpoclcmapnloaaGreatDoorRows
import Derived.ClosedOfChecked
import Derived.JoinedOf
import Derived.KernelRfl
namespace Go.Proofs.YtgpoclcmapnloaaGreatDoor
open Go
set_option linter.unusedVariables false
set_option linter.unusedSimpArgs false
set_option maxRecDepth 100000
theorem typesSame : Tryz.checked.prog.types = Tryz.checked.src.types := by kernel_rfl
theorem laidOut : laidOutB Tryz.prog = true := ClosedOfChecked.laidOutB_of (P := Tryz.prog) (ClosedOfChecked.allSpec_of Tryz.checked.wellFormed typesSame) (by kernel_rfl)
theorem mapsIn : mapsRowed Tryz.prog = true := ClosedOfChecked.mapsRowed_of (P := Tryz.prog) (ClosedOfChecked.allSpec_of Tryz.checked.wellFormed typesSame)
theorem and_i {a b : Bool} (ha : a = true) (hb : b = true) : (a && b) = true := by rw [ha, hb]; rfl
set_option maxHeartbeats 400000000 in
theorem facts : joinedFacts Tryz.prog 3 Tryz.f3 Rows.walletNonesSpec Rows.walletNonesRow = true := by
  unfold joinedFacts
  repeat' with_reducible apply and_i
  all_goals first
    | with_reducible exact laidOut
    | with_reducible exact mapsIn
    | (as_aux_lemma => kernel_rfl)
end Go.Proofs.YtgpoclcmapnloaaGreatDoor
