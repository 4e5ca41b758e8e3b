/-
  What the program's calls are evaluated with.
-/
import Derived.Test.YtgpoclcmapnloaaGreatDoorEvD
import Derived.Test.YtgpoclcmapnloaaGreatDoorProg
import Derived.KernelRfl
namespace Go.Proofs.YtgpoclcmapnloaaGreatDoor
open Go.Ev
set_option linter.unusedVariables false
set_option linter.unusedSimpArgs false
def kI (n : Nat) : AV := .int .i64 (.ofNat n)
def kB (n : Nat) : AV := .int .u8 (.ofNat n)
def kW (n : Nat) : AV := .int .u64 (.ofNat n)
def kN (k : IntKind) (n : Nat) : AV := .int k (.ofNat n)
def kM (k : IntKind) (n : Nat) : AV := .int k (.negSucc n)
theorem mixed : Tryz.prog.follows .mixedOrders = true := by kernel_rfl
theorem counts : (Tryz.prog.funcs.toList.all fun fn => !fn.body.isSome || !(fn.name == "runtime.NumGoroutine")) = true := by kernel_rfl
theorem noCount : NoCount Tryz.prog := by
  intro f fn hf hb
  have h := List.all_eq_true.1 counts fn (Array.mem_toList_iff.2 (Array.mem_of_getElem? hf))
  rw [hb] at h
  simpa using h
theorem u8size : (Tryz.prog.info? 5).map (·.size) = some 1 := by kernel_rfl
noncomputable def I0 : ConH := fun _ => none
noncomputable def J0 : DefH := fun _ => none
noncomputable def R0 : RecH := fun _ => none
theorem I0_ok (X : Fix) : IOk Tryz.prog X I0 := fun h => by cases h
theorem J0_ok (X : Fix) : JOk Tryz.prog X J0 := fun h => by cases h
theorem R0_ok (X : Fix) : ROk Tryz.prog X R0 := fun h => by cases h
end Go.Proofs.YtgpoclcmapnloaaGreatDoor
