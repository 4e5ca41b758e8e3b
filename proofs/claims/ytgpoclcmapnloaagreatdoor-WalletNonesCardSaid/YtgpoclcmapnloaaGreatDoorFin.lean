/-
  WalletNones: for every kind and every slice of bytes the law returns true, and its arguments read afterwards as they read before. Condition: the listed package variables start as the program's text lays them (the card ties them).
-/
import Derived.Test.YtgpoclcmapnloaaGreatDoorRows
import Derived.Test.YtgpoclcmapnloaaGreatDoorCards
import Derived.Test.YtgpoclcmapnloaaGreatDoorRun
import Derived.Test.YtgpoclcmapnloaaGreatDoorFa
import Derived.Test.YtgpoclcmapnloaaGreatDoorFb
import Derived.Test.YtgpoclcmapnloaaGreatDoorGreat
import Derived.WalkKit
import Derived.ProofKit
import Derived.OpenShut
import Derived.ShutString
import Derived.ChangeOld
import Derived.Below
import Derived.LaidByTextLater
import Derived.LaidLaws
import Derived.SevenTiedAt
import Derived.ClosedOfChecked
namespace Go.Proofs.YtgpoclcmapnloaaGreatDoor
open Go.ChangeShapes Go.WideShapes Go.ChangeAt Go.RowKit
open Go.ChangeMaps (open_string shut_string)
open Go.Ev
set_option linter.unusedVariables false
set_option linter.unusedSimpArgs false

theorem own : ownKnob Tryz.prog.godebug = none := by kernel_rfl
/-- A slice of integers that came in: nil, or a row of cells. -/
def IsRow (k : IntKind) (w : World) (a : Option Addr) (len cap : Nat) (zs : List Int) : Prop :=
  (a = none ∧ len = 0 ∧ cap = 0 ∧ zs = []) ∨
  ∃ x, a = some x ∧ len ≤ cap ∧ cap ≤ maxLen ∧ zs.length = cap ∧ (∀ i, i < zs.length → w.cell? (x.add i) = some (.int k (zs.getD i 0))) ∧ ∀ n ∈ zs, (Lit.int k n).wf = true

set_option maxRecDepth 100000 in
theorem walk (n0 : Int) (a0 : Option Addr) (len0 cap0 : Nat) (z0 : List Int) (w : World) (w1 : IsRow .u8 w a0 len0 cap0 z0) :
    Calls Tryz.prog 3 #[.int .i64 n0, .slice a0 len0 cap0] w fun e w' => e = .returned (.bool true) ∧ Below w.heap.size w w' := by
  have hle : len0 ≤ cap0 := by rcases w1 with ⟨_, rfl, rfl, _⟩ | ⟨_, _, h, _⟩ <;> omega
  have hcap : cap0 ≤ maxLen := by
    rcases w1 with ⟨_, _, rfl, _⟩ | ⟨_, _, _, h, _⟩
    · exact Nat.zero_le _
    · exact h
  have hmax : (len0 : Int) ≤ IntKind.i64.max := by
    have h1 : (maxLen : Int) ≤ IntKind.i64.max := by decide
    omega
  obtain ⟨i, hi, hs⟩ := Option.map_eq_some_iff.1 u8size
  exact law_callsT (q := cutQ (.int .i64 n0) a0 len0 cap0 50) (T := []) (args := [.opq 0, .opq 1]) noCount mixed (withMemos_ok I0_ok law_kids) J0_ok R0_ok
    (cutOrc_ok Tryz.underlying22 hi hs hle hmax) (m := 1500) (n := 100) (xs := [.int .i64 n0, .slice a0 len0 cap0]) Tryz.func3 rfl
    ⟨_, _, ⟨rfl, rfl⟩, ⟨_, _, ⟨rfl, rfl⟩, rfl, rfl⟩, rfl⟩ (fun _ h => by cases h) law_run

noncomputable def lw (os : Os) : World := laidWorld0 Tryz.prog os [(0, Rows.laid_internal_strconv_uint64pow10), (1, Rows.laid_math_bits_deBruijn32tab), (2, Rows.laid_math_bits_deBruijn64tab)]
theorem lw_refs (os : Os) (args : Array Value) : ((lw os).forCall (fun _ _ => 0) ⟨#[], args, []⟩).variablesRefB Tryz.prog = true := by kernel_rfl
theorem lw_rest (os : Os) (args : Array Value) : (((lw os).forCall (fun _ _ => 0) ⟨#[], args, []⟩).heap.toList.drop Tryz.prog.globals.size).take ((begin Tryz.prog (fun _ _ => 0) default).world.heap.size - Tryz.prog.globals.size) =
      (begin Tryz.prog (fun _ _ => 0) default).world.heap.toList.drop Tryz.prog.globals.size := by kernel_rfl
theorem lw_run (os : Os) (args : Array Value) : (DataW.laidRun Tryz.prog ((lw os).forCall (fun _ _ => 0) ⟨#[], args, []⟩).memory 8 (Rows.walletNonesRow.laid.map (·.1))).map (·.1) = some Rows.walletNonesRow.laid := by kernel_rfl
theorem lw_rows (os : Os) (args : Array Value) : (DataW.laidRun Tryz.prog ((lw os).forCall (fun _ _ => 0) ⟨#[], args, []⟩).memory 8 (Rows.walletNonesRow.laid.map (·.1))).map (fun x => decide x.2.Nodup && laidRowsB Tryz.prog ((lw os).forCall (fun _ _ => 0) ⟨#[], args, []⟩).memory x.2) = some true := by kernel_rfl
theorem noHandles : (Rows.walletNonesRow.laid.filter fun x => x.2.handleName?.isSome) = [] := by kernel_rfl
theorem lw_met (os : Os) (args : Array Value) : laidMetH Tryz.prog Rows.walletNonesRow.laid ((lw os).forCall (fun _ _ => 0) ⟨#[], args, []⟩).memory := by
  unfold laidMetH
  rw [noHandles]
  exact laidMet_of_run' 8 (lw_run os args) (lw_rows os args)

set_option maxRecDepth 100000 in
theorem lifted (os : Os) (started : os.Started) (H : Type) (enc : TypeId × Value → H) :
    ReturnsInHanded {} Tryz.checked os 3 .any (fun w args => (Rows.walletNonesSpec.pre enc Tryz.prog Tryz.f3 Rows.walletNonesRow.domain false w args ∧ laidMetH Tryz.prog Rows.walletNonesRow.laid w) ∧ sizedMet enc Tryz.prog Tryz.f3 (OpenSpec.ofChange Rows.walletNonesSpec) false w args)
      (Rows.walletNonesSpec.post enc Tryz.prog Tryz.f3 false true false false) := by
  refine returnsInHanded_of_change_and (C := Tryz.checked) (X := fun w _ => laidMetH Tryz.prog Rows.walletNonesRow.laid w) (fun _ _ _ hh h => h.of_heap hh) own started (by kernel_rfl) Tryz.func3
    (ChangeSpec.witness_shaped (enc := enc) (C := Tryz.checked) (os := os) (X := fun w _ => laidMetH Tryz.prog Rows.walletNonesRow.laid w) false (lw os) #[.int .i64 0, .slice none 0 0] 8 rfl (World.shaped_of_RefB (lw_refs os _) (lw_rest os _)) (by kernel_rfl) (by kernel_rfl) (by kernel_rfl) (lw_met os _)) ?_
  intro W base args ds gs before hval0 hW hcnd _ hL _
  have hval : ∀ (j : Nat) t v, Tryz.f3.params[j]? = some t → args[j]? = some v → Value.okWide Tryz.prog W .any base t v := hval0
  have hW' := hW
  obtain ⟨p, q, hA0, hV, rfl, hfz, hnd⟩ := hW
  have hA : DataW.TrodAll enc Tryz.prog W 0 (fun _ => true) true Tryz.f3.params.toList args.toList ds p := hA0
  rw [Tryz.params3] at hA hval
  obtain ⟨v0, vs0, d0, ds0, p0, q0, hargs, rfl, rfl, h0, r0⟩ := trodAll_cons hA
  obtain ⟨v1, vs1, d1, ds1, p1, q1, rfl, rfl, rfl, h1, r1⟩ := trodAll_cons r0
  obtain ⟨rfl, rfl, rfl⟩ := trodAll_nil r1
  obtain rfl : args = #[v0, v1] := by cases args; simp_all
  obtain ⟨rfl, rfl⟩ := trodVars_none hV
  obtain ⟨n0, rfl, rfl, rfl, w0⟩ := open_int Tryz.underlying3 (hval 0 3 v0 rfl rfl) h0
  obtain ⟨a1, len1, cap1, rfl⟩ := okWide_slice Tryz.underlying22 (hval 1 22 v1 rfl rfl)
  have k1 := h1
  have lt1 : ∀ x ∈ p1, x.block < W.heap.size := by obtain ⟨m, hm⟩ := k1; exact DataW.trod_lt m _ _ _ hm
  obtain ⟨z1, w1⟩ : ∃ zs, IsRow .u8 W a1 len1 cap1 zs := by
    obtain ⟨fuel, hf⟩ := h1
    rcases open_ints Tryz.underlying22 Tryz.underlying5 (by kernel_rfl) hf with ⟨hcs, _⟩ | ⟨x, l, c, zs, hcs, _, hl, hm, hz, _, hcell, hwz⟩
    · simp [Value.cells] at hcs
      obtain ⟨rfl, rfl, rfl⟩ := hcs
      exact ⟨[], .inl ⟨rfl, rfl, rfl, rfl⟩⟩
    · simp [Value.cells] at hcs
      obtain ⟨rfl, rfl, rfl⟩ := hcs
      exact ⟨zs, .inr ⟨_, rfl, hl, hm, by simpa using hz, hcell, hwz⟩⟩
  clear hA0 hval0
  refine (walk n0 a1 len1 cap1 z1 W w1).mono fun e W' ⟨he, bel⟩ => ?_
  subst he
  exact ⟨_, rfl, _, _, _, [], _, [], hW', trodAll_mk1 (shut_bool Tryz.underlying4 _), (trodAll_cons_mk (shut_int Tryz.underlying3 w0) (trodAll_cons_mk (Below.trod laidOut (by kernel_rfl) (of_decide_eq_true (by kernel_rfl)) k1 bel lt1) trodAll_mk0)), rfl, bel.frame _, fun h => by cases h⟩

theorem over : Rows.WalletNonesSaid :=
  OpenClaim.holds_of_wide 3 Tryz.f3 rfl rfl rfl rfl rfl rfl rfl ⟨rfl, rfl, rfl, rfl, rfl⟩ rfl rfl rfl rfl rfl (by kernel_rfl) Tryz.func3 facts
    (of_decide_eq_true (by kernel_rfl)) (by unfold Func.isWrapper; rw [if_neg (of_decide_eq_false (by kernel_rfl))]; exact ⟨rfl, rfl⟩)
    (fun os started H enc _ => lifted os started H enc)

/-! ### The tie -/
theorem getD_map {α : Type} (l : List α) (x0 : α) : (List.range l.length).map (fun i => l.getD i x0) = l := by
  apply List.ext_getElem
  · simp
  · intro i h1 h2
    simp at h1
    simp [h1]
theorem perm_idx {α : Type} {l l' : List α} (x0 : α) (is : List Nat) (h1 : is.Perm (List.range l.length)) (h2 : l' = is.map (fun i => l.getD i x0)) : l.Perm l' := by
  rw [h2]
  have := (h1.map (fun i => l.getD i x0)).symm
  rwa [getD_map] at this
theorem tie : Tryz.prog.laidByTextLater Rows.walletNonesRow.laid Rows.walletNonesCard.laidKinds true :=
  tie_perm (Program.laidByTextLater.sub Great.tie ["internal/strconv.uint64pow10", "math/bits.deBruijn32tab", "math/bits.deBruijn64tab"] rfl rfl) (perm_idx ("", .nil) [2, 0, 1] (of_decide_eq_true (by kernel_rfl)) (by kernel_rfl)) (by kernel_rfl)
theorem row_tie : Rows.walletNonesRow.laidByTextAt .later Tryz.pinned Rows.walletNonesCard.laidKinds true :=
  OpenClaim.laidByTextAt_later rfl rfl tie noOwnUnsafe

theorem card_holds : Rows.WalletNonesCardSaid :=
  Claim7.holds_tied_plain_at .later [] Rows.walletNonesCard.laidKinds true Rows.walletNonesCard.stood.harness true
    over (fun _ h => by cases h) wfText (fun _ h => by cases h) row_tie rfl ⟨rfl, rfl⟩ mainIs rfl
    (fun f fn hf hfn => by
      obtain rfl : f = 3 := Option.some.inj ((show Tryz.prog.funcNamed "baize/baizelaw56.WalletNones" = some 3 by kernel_rfl).symm.trans hf) |>.symm
      obtain rfl : fn = Tryz.f3 := (Option.some.inj (Tryz.func3.symm.trans hfn)).symm
      exact ⟨looksIs, fun j t ht => by
        rw [Tryz.params3] at ht
        have h3 : t = 3 ∨ t = 22 := by
          rcases j with _ | _ | j
          · left; simpa using ht.symm
          · right; simpa using ht.symm
          · simp at ht
        rcases h3 with rfl | rfl
        · exact (show Tryz.prog.wantsStandIn 3 = false by kernel_rfl)
        · exact (show Tryz.prog.wantsStandIn 22 = false by kernel_rfl)⟩)
    goesIs
end Go.Proofs.YtgpoclcmapnloaaGreatDoor
