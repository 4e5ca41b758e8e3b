/-
  Calls, evaluated by the kernel.
-/
import Derived.Test.YtgpoclcmapnloaaGreatDoorD0
import Derived.KernelRfl
namespace Go.Proofs.YtgpoclcmapnloaaGreatDoor
open Go.Ev
set_option maxRecDepth 1000000
set_option linter.unusedVariables false
set_option linter.unusedSimpArgs false
theorem m5_run : runMemo Tryz.prog J0 R0 (callN Tryz.prog (withMemos I0 [m4]) J0 R0 1500 100) 1500 m5 = true := by kernel_rfl
theorem m6_ren : renMemo m0 m6 [] = true := by kernel_rfl
theorem m7_run : runMemo Tryz.prog J0 R0 (callN Tryz.prog (withMemos I0 [m5, m6]) J0 R0 1500 100) 1500 m7 = true := by kernel_rfl
end Go.Proofs.YtgpoclcmapnloaaGreatDoor
