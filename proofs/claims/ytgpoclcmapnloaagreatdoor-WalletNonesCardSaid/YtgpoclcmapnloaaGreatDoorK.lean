/-
  Calls that were evaluated by themselves are so wherever memory holds what they need.
-/
import Derived.Test.YtgpoclcmapnloaaGreatDoorR0
import Derived.Test.YtgpoclcmapnloaaGreatDoorR1
import Derived.Test.YtgpoclcmapnloaaGreatDoorR2
namespace Go.Proofs.YtgpoclcmapnloaaGreatDoor
open Go.Ev
set_option maxRecDepth 1000000
set_option linter.unusedVariables false
set_option linter.unusedSimpArgs false
theorem m0_kids : ∀ M ∈ ([] : List Memo), MemoOk Tryz.prog M := nofun
theorem m0_ok : MemoOk Tryz.prog m0 := memo_ok noCount mixed (withMemos_ok I0_ok m0_kids) J0_ok R0_ok (M := m0) Tryz.func25 rfl m0_run
theorem m1_ok : MemoOk Tryz.prog m1 := memo_ok_ren noCount mixed (withMemos_ok I0_ok m0_kids) J0_ok R0_ok (M := m0) (M' := m1) Tryz.func25 rfl m0_run m1_ren
theorem m2_kids : ∀ M ∈ ([] : List Memo), MemoOk Tryz.prog M := nofun
theorem m2_ok : MemoOk Tryz.prog m2 := memo_ok noCount mixed (withMemos_ok I0_ok m2_kids) J0_ok R0_ok (M := m2) Tryz.func23 rfl m2_run
theorem m3_kids : ∀ M ∈ ([] : List Memo), MemoOk Tryz.prog M := nofun
theorem m3_ok : MemoOk Tryz.prog m3 := memo_ok noCount mixed (withMemos_ok I0_ok m3_kids) J0_ok R0_ok (M := m3) Tryz.func25 rfl m3_run
theorem m4_kids : ∀ M ∈ ([] : List Memo), MemoOk Tryz.prog M := nofun
theorem m4_ok : MemoOk Tryz.prog m4 := memo_ok noCount mixed (withMemos_ok I0_ok m4_kids) J0_ok R0_ok (M := m4) Tryz.func88 rfl m4_run
theorem m5_kids : ∀ M ∈ ([m4] : List Memo), MemoOk Tryz.prog M := by
  intro M hM
  simp only [List.mem_cons, List.not_mem_nil, or_false] at hM
  rcases hM with rfl
  · exact m4_ok
theorem m5_ok : MemoOk Tryz.prog m5 := memo_ok noCount mixed (withMemos_ok I0_ok m5_kids) J0_ok R0_ok (M := m5) Tryz.func25 rfl m5_run
theorem m6_ok : MemoOk Tryz.prog m6 := memo_ok_ren noCount mixed (withMemos_ok I0_ok m0_kids) J0_ok R0_ok (M := m0) (M' := m6) Tryz.func25 rfl m0_run m6_ren
theorem m7_kids : ∀ M ∈ ([m5, m6] : List Memo), MemoOk Tryz.prog M := by
  intro M hM
  simp only [List.mem_cons, List.not_mem_nil, or_false] at hM
  rcases hM with rfl | rfl
  · exact m5_ok
  · exact m6_ok
theorem m7_ok : MemoOk Tryz.prog m7 := memo_ok noCount mixed (withMemos_ok I0_ok m7_kids) J0_ok R0_ok (M := m7) Tryz.func28 rfl m7_run
theorem m8_kids : ∀ M ∈ ([m1, m2, m3, m7] : List Memo), MemoOk Tryz.prog M := by
  intro M hM
  simp only [List.mem_cons, List.not_mem_nil, or_false] at hM
  rcases hM with rfl | rfl | rfl | rfl
  · exact m1_ok
  · exact m2_ok
  · exact m3_ok
  · exact m7_ok
theorem m8_ok : MemoOk Tryz.prog m8 := memo_ok noCount mixed (withMemos_ok I0_ok m8_kids) J0_ok R0_ok (M := m8) Tryz.func5 rfl m8_run
end Go.Proofs.YtgpoclcmapnloaaGreatDoor
