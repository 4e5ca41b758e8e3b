/-
  Calls, evaluated by the kernel.
-/
import Derived.Test.YtgpoclcmapnloaaGreatDoorD0
import Derived.KernelRfl
namespace Go.Proofs.YtgpoclcmapnloaaGreatDoor
open Go.Ev
set_option maxRecDepth 1000000
set_option linter.unusedVariables false
set_option linter.unusedSimpArgs false
theorem m8_run : runMemo Tryz.prog J0 R0 (callN Tryz.prog (withMemos I0 [m1, m2, m3, m7]) J0 R0 1500 100) 1500 m8 = true := by kernel_rfl
end Go.Proofs.YtgpoclcmapnloaaGreatDoor
