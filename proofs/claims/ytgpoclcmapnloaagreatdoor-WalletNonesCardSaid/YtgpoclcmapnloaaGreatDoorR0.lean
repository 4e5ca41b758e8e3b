/-
  Calls, evaluated by the kernel.
-/
import Derived.Test.YtgpoclcmapnloaaGreatDoorD0
import Derived.KernelRfl
namespace Go.Proofs.YtgpoclcmapnloaaGreatDoor
open Go.Ev
set_option maxRecDepth 1000000
set_option linter.unusedVariables false
set_option linter.unusedSimpArgs false
theorem m0_run : runMemo Tryz.prog J0 R0 (callN Tryz.prog (withMemos I0 []) J0 R0 1500 100) 1500 m0 = true := by kernel_rfl
theorem m1_ren : renMemo m0 m1 [] = true := by kernel_rfl
theorem m2_run : runMemo Tryz.prog J0 R0 (callN Tryz.prog (withMemos I0 []) J0 R0 1500 100) 1500 m2 = true := by kernel_rfl
theorem m3_run : runMemo Tryz.prog J0 R0 (callN Tryz.prog (withMemos I0 []) J0 R0 1500 100) 1500 m3 = true := by kernel_rfl
theorem m4_run : runMemo Tryz.prog J0 R0 (callN Tryz.prog (withMemos I0 []) J0 R0 1500 100) 1500 m4 = true := by kernel_rfl
end Go.Proofs.YtgpoclcmapnloaaGreatDoor
