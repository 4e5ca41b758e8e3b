/-
  The law WalletNones, evaluated by the kernel for every kind and every slice of bytes at once: it answers true.
-/
import Derived.Test.YtgpoclcmapnloaaGreatDoorK
namespace Go.Proofs.YtgpoclcmapnloaaGreatDoor
open Go.Ev
set_option maxRecDepth 1000000
theorem law_kids : ∀ M ∈ ([m0, m8] : List Memo), MemoOk Tryz.prog M := by
  intro M hM
  simp only [List.mem_cons, List.not_mem_nil, or_false] at hM
  rcases hM with rfl | rfl
  · exact m0_ok
  · exact m8_ok
theorem law_run : laysK (tabsK []) σ0 (fun σ => enterK Tryz.prog J0 R0 (fun p => withOrc (callN Tryz.prog (withMemos I0 [m0, m8]) J0 R0 1500 100 p) (cutOrc 22 50)) (fun _ _ => false) 1500 3 [.opq 0, .opq 1] σ fun v σ' => ifB (isTrueK v σ') (haveK (tabsK []) σ' true) false) = true := by kernel_rfl
end Go.Proofs.YtgpoclcmapnloaaGreatDoor
