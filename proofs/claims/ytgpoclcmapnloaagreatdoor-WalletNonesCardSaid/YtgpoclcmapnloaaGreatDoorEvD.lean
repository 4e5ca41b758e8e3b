/-
  An evaluator of the model's programs over abstract values and memory, part D: laws, tables, calls that are evaluated by themselves.
-/
import Derived.Test.YtgpoclcmapnloaaGreatDoorEvC
import GoSem.ClaimJoined
import Derived.Lib.MakeNoZero
import Derived.Below
import Derived.LaidSub
import Derived.LaidLaws
import Derived.WideWitness
import Derived.Handed
set_option linter.unusedVariables false
set_option linter.unusedSimpArgs false
/- The evaluator, part 37: the first world: tables that are laid. -/
namespace Go.Ev

noncomputable def litAV (l : Lit) : AV :=
  match l with
  | .bool b => .bool b
  | .int k n => .int k n
  | .string bs => .str (lenL bs) (packL bs)
  | _ => .nilp
noncomputable def flatD : Nat → DataW Unit → List AV
  | 0, _ => []
  | f + 1, d => match d with
    | .lit l => [litAV l]
    | .agg ds => ds.flatMap (flatD f)
    | _ => []
noncomputable def forceAL (l : List AV) (K : List AV → Bool) : Bool :=
  List.rec (motive := fun _ => (List AV → Bool) → Bool) (fun K => K []) (fun v _ ih K => forceAV v fun v => ih fun r => K (v :: r)) l K
/-- Tables laid into a state: each one's global, element type, datum. -/
noncomputable def layG (l : List (Nat × TypeId × List AV)) (σ : St) (K : St → Bool) : Bool :=
  List.rec (motive := fun _ => St → Bool) (fun σ => K σ)
    (fun x _ ih σ => forceAL x.2.2 fun cs => forceN (lenL cs) fun n => fillK cs 0 (eCs n) fun c => hSetK x.1 (some (.cells c n x.2.1 false 0 false)) σ ih) l σ
theorem forceAL_eq : ∀ {l : List AV} {K : List AV → Bool}, forceAL l K = K l
  | [], _ => rfl
  | v :: l, K => by
    have h : forceAL (v :: l) K = forceAV v fun v => forceAL l fun r => K (v :: r) := rfl
    rw [h, forceAV_eq, forceAL_eq]

/-- Parts that lie one behind the other. -/
def consec : List (Nat × Nat) → Nat → Nat → Bool
  | [], s, n => s == n
  | q :: l, s, n => q.1 == s && consec l (s + q.2) n
theorem consec_le : ∀ {l : List (Nat × Nat)} {s n : Nat}, consec l s n = true → s ≤ n
  | [], s, n, h => by simp [consec] at h; omega
  | q :: l, s, n, h => by
    simp [consec] at h
    have := consec_le h.2
    omega
theorem flat_chunks (cs : List Value) : ∀ (l : List (Nat × Nat)) (s : Nat), consec l s cs.length = true → l.flatMap (fun q => (cs.drop q.1).take q.2) = cs.drop s
  | [], s, h => by simp [consec] at h; simp [h]
  | q :: l, s, h => by
    simp [consec] at h
    obtain ⟨rfl, h2⟩ := h
    have h3 := consec_le h2
    rw [List.flatMap_cons, flat_chunks cs l _ h2, ← List.drop_drop]
    exact List.take_append_drop _ _
/-- Types of plain data alone. -/
noncomputable def flatT (P : Program) : Nat → TypeId → Bool
  | 0, _ => false
  | n + 1, t => match P.underlying t with
    | some .bool | some (.int _) | some .string => true
    | some (.array m e) => flatT P n e && consec ((List.range m).map fun i => (i * P.cellsOf e, P.cellsOf e)) 0 (P.cellsOf t)
    | some (.struct fs) => fs.toList.all (fun f => flatT P n f.type) && consec (fs.toList.map fun f => (f.offset, P.cellsOf f.type)) 0 (P.cellsOf t)
    | _ => false

theorem mapM_rel {e : Env} {α β : Type} {f : α → Option β} {g : β → List AV} {c : α → List Value} : ∀ {l : List α} {xs : List β}, (∀ a ∈ l, ∀ x, f a = some x → LRel e (g x) (c a)) → l.mapM f = some xs → LRel e (xs.flatMap g) (l.flatMap c)
  | [], xs, _, h => by simp at h; subst h; exact LRel.nil
  | a :: l, xs, hf, h => by
    simp only [List.mapM_cons, Option.bind_eq_bind, Option.pure_def, Option.bind_eq_some_iff, Option.some.injEq] at h
    obtain ⟨x, h1, ys, h2, rfl⟩ := h
    rw [List.flatMap_cons, List.flatMap_cons]
    exact (hf a (by simp) x h1).append (mapM_rel (fun b hb => hf b (by simp [hb])) h2)

theorem str_lit {e : Env} (s : ByteArray) : VRel e (litAV (.string s.data.toList)) (.string s) := by
  show Value.string s = .string _
  rw [strOf_packL]

theorem flat_ok {P : Program} {w : World} {sp : Nat → Bool} {e : Env} : ∀ (n fuel : Nat) {t : TypeId} {cs : List Value} {d : DataW Unit} {p : List MemPlace}, flatT P n t = true → DataW.trod (fun _ => ()) P w 0 sp false fuel t cs = some (d, p) → LRel e (flatD n d) cs
  | 0, _, _, _, _, _, h, _ => by simp [flatT] at h
  | _ + 1, 0, _, _, _, _, _, h => by simp [DataW.trod] at h
  | n + 1, fuel + 1, t, cs, d, p, ht, h => by
    unfold flatT at ht
    split at ht
    · rename_i hu
      unfold DataW.trod at h
      simp only [hu] at h
      split at h <;> first | (cases h; done) | skip
      all_goals first | (simp_all; done) | skip
      rename_i b _
      cases h
      exact LRel.one rfl
    · rename_i k hu
      unfold DataW.trod at h
      simp only [hu] at h
      split at h <;> first | (cases h; done) | skip
      all_goals first | (simp_all; done) | skip
      rename_i k1 k2 n' heq
      cases heq
      split at h
      · rename_i hk
        obtain ⟨rfl, _⟩ := hk
        cases h
        exact LRel.one rfl
      · cases h
    · rename_i hu
      unfold DataW.trod at h
      simp only [hu] at h
      split at h <;> first | (cases h; done) | skip
      all_goals first | (simp_all; done) | skip
      rename_i s _
      split at h
      · cases h
        exact LRel.one (str_lit s)
      · cases h
    · rename_i m el hu
      rw [Bool.and_eq_true] at ht
      unfold DataW.trod at h
      simp only [hu] at h
      split at h
      · rename_i hl
        simp only [Option.map_eq_some_iff] at h
        obtain ⟨xs, h1, h2⟩ := h
        cases h2
        have key := mapM_rel (e := e) (g := fun x => flatD n x.1) (c := fun i => (cs.drop (i * P.cellsOf el)).take (P.cellsOf el)) (fun i _ x hx => flat_ok n fuel ht.1 hx) h1
        have hc := flat_chunks cs _ 0 (by rw [hl]; exact ht.2)
        rw [List.flatMap_map, List.drop_zero] at hc
        rw [hc] at key
        show LRel e ((xs.map (·.1)).flatMap (flatD n)) cs
        rw [List.flatMap_map]
        exact key
      · cases h
    · rename_i fs hu
      rw [Bool.and_eq_true] at ht
      unfold DataW.trod at h
      simp only [hu] at h
      split at h
      · rename_i hl
        simp only [Option.map_eq_some_iff] at h
        obtain ⟨xs, h1, h2⟩ := h
        cases h2
        have key := mapM_rel (e := e) (g := fun x => flatD n x.1) (c := fun f : Field => (cs.drop f.offset).take (P.cellsOf f.type)) (fun f hf x hx => flat_ok n fuel (List.all_eq_true.1 ht.1 f hf) hx) h1
        have hc := flat_chunks cs _ 0 (by rw [hl]; exact ht.2)
        rw [List.flatMap_map, List.drop_zero] at hc
        rw [hc] at key
        show LRel e ((xs.map (·.1)).flatMap (flatD n)) cs
        rw [List.flatMap_map]
        exact key
      · cases h
    · cases ht

/-- The first env: globals by their numbers, and symbols. -/
def env0 (q : Nat → Option Value) : Env := ⟨fun b => if b < 64 then some b else none, fun _ => none, q⟩
/-- All blocks but the tables' stay. -/
def fix0 (w : World) (T : List Nat) (q : Nat → Option Value) : Fix := ⟨fun c => c < w.heap.size ∧ c ∉ T, fun c => w.heap[c]?, fun _ => False, w.os, w.output, w.tape, q, fun _ _ => false⟩

theorem layG_ok {P : Program} {X : Fix} {q : Nat → Option Value} {w : World} : ∀ (l : List (Nat × TypeId × List AV)) {σ : St} {K : St → Bool}, (l.map (·.1)).Nodup → (∀ x ∈ l, x.1 < 64 ∧ ¬ X.F x.1 ∧ ∃ C, w.heap[x.1]? = some (.cells C x.2.1 (0, 0)) ∧ LRel (env0 q) (x.2.2) C.toList) →
    WRel P X (env0 q) σ w → layG l σ K = true → ∃ σ', K σ' = true ∧ WRel P X (env0 q) σ' w ∧ σ'.df = σ.df
  | [], σ, K, _, _, hw, h => ⟨σ, h, hw, rfl⟩
  | x :: l, σ, K, hn, hx, hw, h => by
    have h0 : forceAL (x.2.2) (fun cs => forceN (lenL cs) fun n => fillK cs 0 (eCs n) fun c => hSetK x.1 (some (.cells c n x.2.1 false 0 false)) σ fun σ => layG l σ K) = true := h
    rw [forceAL_eq, forceN_eq, lenL_eq] at h0
    obtain ⟨c, h1, hc⟩ := fillK_ok h0
    obtain ⟨hs, h2⟩ := hSetK_iff.1 h1
    obtain ⟨hlt, hF, C, hC, hrel⟩ := hx x (by simp)
    obtain ⟨hn1, hn2⟩ := List.nodup_cons.1 hn
    have hB : BRel P (env0 q) x.1 (.cells c (x.2.2).length x.2.1 false 0 false) (.cells C x.2.1 (0, 0)) := by
      have := BRel.row (P := P) (b := x.1) (el := x.2.1) hrel hc
      rwa [Array.toArray_toList] at this
    have hblk : (env0 q).blk x.1 = some x.1 := by simp [env0, hlt]
    have hid : ∀ j c, (env0 q).blk j = some c → j = c := by
      intro j c hj
      simp only [env0] at hj
      split at hj
      · cases hj; rfl
      · cases hj
    have hnx : 64 ≤ σ.nx := nx_ge hw
    have hw1 : WRel P X (env0 q) (σ.put x.1 (some (.cells c (x.2.2).length x.2.1 false 0 false))) w := by
      refine ⟨fun j B hj => ?_, fun j j' d B B' _ _ hd hd' => (hid _ _ hd).trans (hid _ _ hd').symm, fun j hj => ?_, hw.glob, hw.old, hw.os, hw.out, hw.tape, hw.res, hw.opq⟩
      · rw [St.get_put hs] at hj
        by_cases e1 : x.1 = j
        · subst e1; rw [if_pos rfl] at hj; cases hj
          exact ⟨x.1, _, hblk, hC, hB, hF⟩
        · rw [if_neg e1] at hj; exact hw.blk j B hj
      · obtain ⟨q1, q2, q3⟩ := hw.fresh j hj
        have hj' : σ.nx ≤ j := hj
        exact ⟨q1, q2, by rw [St.get_put hs, if_neg (by omega)]; exact q3⟩
    exact layG_ok l (σ := σ.put x.1 (some (.cells c (x.2.2).length x.2.1 false 0 false))) hn2 (fun y hy => hx y (by simp [hy])) hw1 h2

theorem first_ok {P : Program} {q : Nat → Option Value} {w : World} {l : List (Nat × TypeId × List AV)} {K : St → Bool} (hn : (l.map (·.1)).Nodup) (hx : ∀ x ∈ l, x.1 < 64 ∧ ∃ C, w.heap[x.1]? = some (.cells C x.2.1 (0, 0)) ∧ LRel (env0 q) (x.2.2) C.toList)
    (h : layG l ⟨eT HL, 64, []⟩ K = true) : ∃ σ, K σ = true ∧ WRel P (fix0 w (l.map (·.1)) q) (env0 q) σ w ∧ σ.df = [] := by
  have hget : ∀ b, St.get ⟨eT HL, 64, []⟩ b = none := fun b => get_eT _ _
  have hw : WRel P (fix0 w (l.map (·.1)) q) (env0 q) (⟨eT HL, 64, []⟩ : St) w := by
    refine ⟨fun b A hb => absurd ((hget b).symm.trans hb) (by simp), fun b b' c A A' hb => absurd ((hget b).symm.trans hb) (by simp), fun b hb => ⟨?_, rfl, hget b⟩, fun g hg => by simp [env0, hg], fun c hc => ⟨hc.1, rfl⟩, rfl, rfl, rfl, fun b hb => hb.elim, rfl⟩
    have hb : 64 ≤ b := hb
    simp [env0, Nat.not_lt.2 hb]
  exact layG_ok (X := fix0 w (l.map (·.1)) q) l hn (fun x hm => ⟨(hx x hm).1, fun hF => hF.2 (List.mem_map.2 ⟨x, hm, rfl⟩), (hx x hm).2⟩) hw h
end Go.Ev

/- The evaluator, part 38: two entries without a body. -/
namespace Go.Ev
section
variable {P : Program} {X : Fix}

theorem run_entry {f : FuncId} {fn : Func} {args : Array Value} {w : World} {s : Array Value → Sem Value} (hf : P.funcs[f]? = some fn) (hn : (fn.name == "runtime.NumGoroutine") = false) (hb : fn.body.isNone = true) (h1 : (Extern.findNext fn).isNone = true)
    (h2 : Extern.find fn = some s) : (callFunc f args).run P w = ((do pure (.value (← s args)) : Sem Next)).run P w := by
  have h1 : Extern.findNext fn = none := by simpa using h1
  have hn : ¬ fn.name = "runtime.NumGoroutine" := by simpa using hn
  have hb : fn.body = none := by simpa using hb
  simp [callFunc, hf, hn, hb, h1, h2]

theorem noEscape_ok {f : FuncId} {fn : Func} (hf : P.funcs[f]? = some fn) (hn : (fn.name == "runtime.NumGoroutine") = false) (hb : fn.body.isNone = true) (h1 : (Extern.findNext fn).isNone = true) (h2 : Extern.find fn = some Extern.AbiNoEscape.same)
    {e : Env} {σ : St} {w : World} {args : List AV} {xs : List Value} {K : AV → St → Bool} (h : noEscapeK args σ K = true) (hl : LRel e args xs) (hw : WRel P X e σ w) : OpOk P X e σ K ((callFunc f xs.toArray).run P w) := by
  rw [run_entry hf hn hb h1 h2]
  cases args with
  | nil => exact nomatch (show false = true from h)
  | cons x r =>
    obtain ⟨y, ys, hy, hys, rfl⟩ := hl
    cases r with
    | cons _ _ => exact nomatch (show false = true from h)
    | nil =>
      cases hys
      exact OpOk.value ⟨x, y, e, σ, w, rfl, Env.Le.refl e, hw, hy, h, rfl⟩

theorem makeNoZero_ok {f : FuncId} {fn : Func} {t el : TypeId} {i : TypeInfo} (hf : P.funcs[f]? = some fn) (hn : (fn.name == "runtime.NumGoroutine") = false) (hb : fn.body.isNone = true) (h1 : (Extern.findNext fn).isNone = true)
    (h2 : Extern.find fn = some (Extern.BytealgMakeNoZero.makeNoZero fn.params #[t])) (ht : P.underlying t = some (.slice el)) (hel : P.info? el = some i) (hsz : i.size = 1)
    {e : Env} {σ : St} {w : World} {args : List AV} {xs : List Value} {K : AV → St → Bool} (h : makeNoZeroK el args σ K = true) (hl : LRel e args xs) (hw : WRel P X e σ w) : OpOk P X e σ K ((callFunc f xs.toArray).run P w) := by
  rw [run_entry hf hn hb h1 h2]
  cases args with
  | nil => exact nomatch (show false = true from h)
  | cons x r =>
    obtain ⟨y, ys, hy, hys, rfl⟩ := hl
    cases r with
    | cons _ _ => exact nomatch (show false = true from h)
    | nil =>
      cases hys
      obtain ⟨k', n', rfl, h0⟩ := onInt_iff.1 (show onInt x (fun k _ => ifB (Nat.beq (ikN k) 3) (natK x fun n => ifB (Nat.ble n 1000000000) (newBlkK (.cells (eCs n) 0 el true 0 false) σ fun b σ => K (.slice b 0 n none) σ) false) false) = true from h)
      obtain ⟨hk0, h0⟩ := ifB_iff.1 h0
      obtain rfl : k' = .i64 := ikN_inj (k' := .i64) hk0
      obtain ⟨k, n, hkn, h3⟩ := natK_ok h0 hy
      obtain rfl : k = .i64 := by
        cases hy
        cases hkn; rfl
      subst hkn
      obtain ⟨hle, h4⟩ := ifB_iff.1 h3
      have hle : n ≤ 1000000000 := Nat.le_of_ble_eq_true hle
      obtain ⟨hs, hk⟩ := newBlkK_iff.1 h4
      obtain ⟨cs, hrun, hge, _⟩ := Lib.run_makeNoZero (P := P) w fn.params t el ht n (by omega)
      obtain ⟨f1, f2, _⟩ := hw.fresh σ.nx (Nat.le_refl _)
      have hle' := Env.le_bind (e := e) (c := w.heap.size) (k := some cs.size) f1 f2
      refine OpOk.value ⟨.slice σ.nx 0 n none, _, e.bind σ.nx w.heap.size (some cs.size), _, _, hrun, hle', hw.new (o := .cells cs el) (w' := w.drew.drew.alloc (.cells cs el)) hs (nx_ge hw) rfl ?_ rfl rfl rfl, ⟨w.heap.size, cs.size, Env.bind_blk .., hge, fun _ => Env.bind_cap .., rfl⟩, hk, rfl⟩
      exact ⟨cs, 0, 0, rfl, ⟨fun j v hv => absurd ((get_eCs n j).symm.trans hv) (by simp), Nat.zero_le _, (fun hh => by cases hh), fun _ => ⟨cs.size, i, Env.bind_cap .., hel, by rw [hsz, Nat.mul_one]⟩, fun j _ _ hj => by omega, fun _ => ⟨rfl, rfl⟩, fun j _ => get_eCs _ _⟩⟩
end
end Go.Ev

/- The evaluator, part 39: a law's call, from any world: nothing that was there is turned. -/
namespace Go.Ev

noncomputable def isTrueK (v : AV) (_ : St) : Bool := onBool v fun b => b
noncomputable def σ0 : St := ⟨eT HL, 64, []⟩

/-- A handler that knows of symbols. -/
noncomputable def withOrc (H : CallH) (S : Op → Fr → Option AV) : CallH := ⟨H.run, H.yld, S, H.pan⟩

/-- What is known of operations on symbols, rightly. -/
def OrcOk (P : Program) (q : Nat → Option Value) (S : Op → Fr → Option AV) : Prop :=
  ∀ {e : Env} {w : World} {fr : Fr} {a : Act} {o : Oper} {v : AV}, e.opq = q → (∀ g, g < 64 → e.blk g = some g) → S o.op fr = some v → (∀ x ∈ o.op.operands, OOk e fr a x) → ∃ x, (execOp a.eval o).run P w = .ok (.value x) w ∧ VRel e v x

theorem withOrc_ok {P : Program} {X : Fix} {H : CallH} {S : Op → Fr → Option AV} (hH : CallHOk P X H) (hS : OrcOk P X.opq S) : CallHOk P X (withOrc H S) :=
  ⟨fun h hl hw => hH.run h hl hw, fun h hb hl hw => hH.yld h hb hl hw, fun h ho hw => hS hw.opq hw.glob h ho, hH.pan⟩

/-- **A law's call, in whatever world.** -/
theorem law_calls {P : Program} {q : Nat → Option Value} {S : Op → Fr → Option AV} {I : ConH} {J : DefH} {R : RecH} (hN : NoCount P) (hmix : P.follows .mixedOrders = true) (hI : ∀ X, IOk P X I) (hJ : ∀ X, JOk P X J) (hRec : ∀ X, ROk P X R) (hS : OrcOk P q S)
    {m n : Nat} {f : FuncId} {fn : Func} {args : List AV} {xs : List Value} {W : World} (hf : P.funcs[f]? = some fn) (hb : fn.body.isSome = true) (ha : LRel (env0 q) args xs)
    (h : enterK P J R (fun p => withOrc (callN P I J R m n p) S) (fun _ _ => false) m f args σ0 isTrueK = true) : Calls P f xs.toArray W fun e W' => e = .returned (.bool true) ∧ Go.RowKit.Below W.heap.size W W' := by
  obtain ⟨c, hc⟩ := Option.isSome_iff_exists.1 hb
  have hH : ∀ (p : AV → St → Bool) (X : Fix), X.opq = q → X.pan = p → CallHOk P X (withOrc (callN P I J R m n p) S) := fun p X hX hp => by subst hp; exact withOrc_ok (callN_all hN hmix hI hJ hRec m n X) (by rw [hX]; exact hS)
  obtain ⟨σ, hk, hw, _⟩ := first_ok (P := P) (q := q) (w := W) (l := []) (K := fun σ => enterK P J R (fun p => withOrc (callN P I J R m n p) S) (fun _ _ => false) m f args σ isTrueK) (by simp) (by simp) h
  have hX : (fix0 W ([] : List Nat) q).opq = q := rfl
  have hcall := enterK_ok hN (X := fix0 W ([] : List Nat) q) (fun p => hH p (Fix.on (fix0 W ([] : List Nat) q) p) hX rfl) (drawK_ok hmix fun p Y hY hp => hH p Y (hY.trans hX) hp) (hJ _) (hRec _) hk ha hw
  rw [run_callFunc hN hf hc] at hcall
  refine Calls.mono hcall ?_
  intro en W' hr
  cases en with
  | panicked c => obtain ⟨_, _, _, _, _, _, _, _, h, _⟩ := hr; cases h
  | outgrown => exact hr.elim
  | returned y =>
    obtain ⟨v, e', σ', _, h2, h3, h4, _⟩ := hr
    obtain ⟨b, rfl, hb⟩ := onBool_iff.1 (show onBool v (fun b => b) = true from h4)
    subst hb
    have h3 : y = .bool true := h3
    refine ⟨by rw [h3], h2.os, h2.tape, h2.out, ?_, fun k hk => (h2.old k ⟨hk, by simp⟩).2⟩
    rcases Nat.eq_zero_or_pos W.heap.size with hz | hz
    · omega
    · have := (h2.old (W.heap.size - 1) ⟨by omega, by simp⟩).1
      omega
end Go.Ev

/- The evaluator, part 40: 'b[:min(len(b), most)]' of a slice that came in, by symbols: 1 the slice, 2 its length, 3 the lesser one, 4 the cut. -/
namespace Go.Ev

noncomputable def isOpq (i : Nat) (v : AV) : Bool :=
  AV.rec (motive_1 := fun _ => Bool) (motive_2 := fun _ => Bool) false (fun j => Nat.beq j i) false false (fun _ => false) (fun _ _ _ _ _ => false) false (fun _ _ => false) false (fun _ _ _ => false) false
    (fun _ _ => false) (fun _ _ => false) (fun _ _ _ _ => false) (fun _ _ => false) (fun _ => false) (fun _ _ => false) false (fun _ _ _ _ => false) v
theorem isOpq_iff {i : Nat} {v : AV} : isOpq i v = true ↔ v = .opq i := by
  refine ⟨fun h => ?_, fun h => by subst h; exact Nat.beq_refl i⟩
  cases v <;> first | exact (show AV.opq _ = _ from congrArg AV.opq (Nat.eq_of_beq_eq_true h)) | exact nomatch (show false = true from h)
noncomputable def tmpIs (i : Nat) (x : Operand) (fr : Fr) : Bool := Operand.rec (fun t => frGetK t fr fun v => isOpq i v) (fun _ => false) (fun _ => false) (fun _ => false) x
noncomputable def constIs (n : Nat) (x : Operand) : Bool :=
  match x with
  | .const (.int .i64 (.ofNat m)) => Nat.beq m n
  | _ => false
theorem tmpIs_ok {e : Env} {i : Nat} {x : Operand} {fr : Fr} {a : Act} (h : tmpIs i x fr = true) (ho : OOk e fr a x) : VRel e (.opq i) (a.eval x) := by
  cases x with
  | tmp t =>
    obtain ⟨v, hv, h1⟩ := frGetK_iff.1 (show frGetK t fr (fun v => isOpq i v) = true from h)
    have := isOpq_iff.1 h1
    subst this
    exact ho _ hv
  | _ => exact nomatch (show false = true from h)

/-- The three operations, of slices of a type. -/
noncomputable def cutOrc (ty most : Nat) (op : Op) (fr : Fr) : Option AV :=
  match op with
  | .call c => match c.callee, c.args.toList, c.argTypes.toList with
    | .builtin .len, [x], [t] => cond (Nat.beq t ty && tmpIs 1 x fr) (some (.opq 2)) none
    | .builtin .min, [x, y], _ => cond (tmpIs 2 x fr && constIs most y) (some (.opq 3)) none
    | _, _, _ => none
  | .slice t x none (some h) none => cond (Nat.beq t ty && (tmpIs 1 x fr && tmpIs 3 h fr)) (some (.opq 4)) none
  | _ => none
/-- The symbols' values: 0 whatever; 1 to 4 the cut's. -/
def cutQ (v0 : Value) (a : Option Addr) (len cap most : Nat) : Nat → Option Value
  | 0 => some v0
  | 1 => some (.slice a len cap)
  | 2 => some (.int .i64 len)
  | 3 => some (.int .i64 (min len most : Nat))
  | 4 => some (.slice (if cap = 0 then a else a.map (·.add 0)) (min len most) cap)
  | _ => none

theorem cutOrc_ok {P : Program} {ty el most : Nat} {i : TypeInfo} {v0 : Value} {a : Option Addr} {len cap : Nat} (hu : P.underlying ty = some (.slice el)) (hi : P.info? el = some i) (hsz : i.size = 1) (hle : len ≤ cap) (hmax : (len : Int) ≤ IntKind.i64.max) :
    OrcOk P (cutQ v0 a len cap most) (cutOrc ty most) := by
  intro e w fr act o v he hg h ho
  obtain ⟨dst, op, oty, pos, after, guard⟩ := o
  simp only at h ho
  have q1 : ∀ {x : Operand}, OOk e fr act x → tmpIs 1 x fr = true → act.eval x = .slice a len cap := fun hx ht => by
    obtain ⟨r, _⟩ := tmpIs_ok ht hx
    rw [he] at r; exact (Option.some.inj r).symm
  have q2 : ∀ {x : Operand}, OOk e fr act x → tmpIs 2 x fr = true → act.eval x = .int .i64 len := fun hx ht => by
    obtain ⟨r, _⟩ := tmpIs_ok ht hx
    rw [he] at r; exact (Option.some.inj r).symm
  have q3 : ∀ {x : Operand}, OOk e fr act x → tmpIs 3 x fr = true → act.eval x = .int .i64 (min len most : Nat) := fun hx ht => by
    obtain ⟨r, _⟩ := tmpIs_ok ht hx
    rw [he] at r; exact (Option.some.inj r).symm
  unfold cutOrc at h
  split at h
  · rename_i c
    split at h
    · rename_i x t hc1 hc2 hc3
      cases hb : (Nat.beq t ty && tmpIs 1 x fr) with
      | false => rw [hb] at h; cases h
      | true =>
        rw [hb] at h; cases h
        rw [Bool.and_eq_true] at hb
        have ht := Nat.eq_of_beq_eq_true hb.1
        subst ht
        have hx : x ∈ c.args := by rw [← Array.mem_toList_iff, hc2]; simp
        have hev := q1 (ho x (by simp only [Op.operands, Call.operands, Array.mem_append]; exact .inr hx)) hb.2
        refine ⟨.int .i64 len, ?_, ⟨by rw [he]; rfl, rfl⟩⟩
        have ha : c.args = #[x] := by apply Array.ext'; rw [hc2]
        have hty : c.argTypes = #[t] := by apply Array.ext'; rw [hc3]
        simp [execOp, resolve, hc1, ha, hty, hev, invoke, builtin, Builtin.len_, run_underlying hu]
        rfl
    · rename_i x y hc1 hc2
      cases hb : (tmpIs 2 x fr && constIs most y) with
      | false => rw [hb] at h; cases h
      | true =>
        rw [hb] at h; cases h
        rw [Bool.and_eq_true] at hb
        have hx : x ∈ c.args := by rw [← Array.mem_toList_iff, hc2]; simp
        have hev := q2 (ho x (by simp only [Op.operands, Call.operands, Array.mem_append]; exact .inr hx)) hb.1
        have hy : y = .const (.int .i64 (most : Nat)) := by
          have hcy := hb.2
          unfold constIs at hcy
          split at hcy
          · rw [Nat.eq_of_beq_eq_true hcy]; rfl
          · cases hcy
        subst hy
        refine ⟨.int .i64 (min len most : Nat), ?_, ⟨by rw [he]; rfl, rfl⟩⟩
        have ha : c.args = #[x, .const (.int .i64 (most : Nat))] := by apply Array.ext'; rw [hc2]
        have hm : Builtin.min2 (.int .i64 len) (.int .i64 (most : Nat)) = pure (.int .i64 (min len most : Nat)) := by
          have e1 : (if (most : Int) < (len : Int) then (most : Int) else (len : Int)) = ((min len most : Nat) : Int) := by split <;> omega
          show (pure (.int .i64 (if (most : Int) < (len : Int) then (most : Int) else (len : Int))) : Sem Value) = _
          rw [e1]
        have hev2 : act.eval (.const (.int .i64 (most : Nat))) = .int .i64 (most : Nat) := rfl
        simp [execOp, resolve, hc1, ha, hev, hev2, invoke, builtin, Builtin.min_, hm]
    · cases h
  · rename_i t x hh
    cases hb : (Nat.beq t ty && (tmpIs 1 x fr && tmpIs 3 hh fr)) with
    | false => rw [hb] at h; cases h
    | true =>
      rw [hb] at h; cases h
      rw [Bool.and_eq_true, Bool.and_eq_true] at hb
      obtain ⟨h1, h2, h3⟩ := hb
      have ht := Nat.eq_of_beq_eq_true h1
      subst ht
      have e1 := q1 (ho x (by simp [Op.operands])) h2
      have e2 := q3 (ho hh (by simp [Op.operands])) h3
      refine ⟨.slice (if cap = 0 then a else a.map (·.add 0)) (min len most) cap, ?_, ⟨by rw [he]; rfl, rfl⟩⟩
      have hle2 : min len most ≤ cap := by omega
      have hb : ∀ code, (Instr.sliceBound (.int .i64 (min len most : Nat)) cap code).run P w = .ok (min len most) w := by
        intro code
        have h5 : (0 : Int) ≤ ((min len most : Nat) : Int) ∧ ((min len most : Nat) : Int) ≤ (cap : Int) := ⟨by omega, by omega⟩
        simp only [Instr.sliceBound, asIntOf, Sem.run_bind, Sem.run_pure, Result.andThen_ok, if_pos h5, Int.toNat_natCast]
      simp only [execOp, Option.map, e1, e2, Instr.sliceAt, Instr.slice, Instr.sliceBounds, Sem.run_bind, run_underlying hu, Result.andThen_ok, Sem.run_pure, hb, run_size hi, Nat.zero_mul, Nat.sub_zero]
  · cases h
end Go.Ev

/- A tie over a list, and over the same list in another order. -/
namespace Go.Ev

theorem laidVars_append {P : Program} {w : World} : ∀ {l l' : List (String × DataW Unit)} {ps : List MemPlace}, DataW.LaidVars P w (l ++ l') ps ↔ ∃ a b, DataW.LaidVars P w l a ∧ DataW.LaidVars P w l' b ∧ ps = a ++ b
  | [], l', ps => ⟨fun h => ⟨[], ps, rfl, h, rfl⟩, fun ⟨a, b, h1, h2, h3⟩ => by cases h1; subst h3; exact h2⟩
  | (n, d) :: l, l', ps => by
    constructor
    · rintro ⟨g, t, cs, fuel, p, q, e1, e2, e3, e4, hr, rfl⟩
      obtain ⟨a, b, h1, h2, rfl⟩ := laidVars_append.1 hr
      exact ⟨_, b, ⟨g, t, cs, fuel, p, a, e1, e2, e3, e4, h1, rfl⟩, h2, by simp⟩
    · rintro ⟨a, b, ⟨g, t, cs, fuel, p, q, e1, e2, e3, e4, h1, rfl⟩, h2, rfl⟩
      exact ⟨g, t, cs, fuel, p, q ++ b, e1, e2, e3, e4, laidVars_append.2 ⟨q, b, h1, h2, rfl⟩, by simp⟩

theorem laidVars_perm {P : Program} {w : World} {l l' : List (String × DataW Unit)} (h : l.Perm l') : ∀ {ps : List MemPlace}, DataW.LaidVars P w l ps → ∃ ps', DataW.LaidVars P w l' ps' ∧ ps.Perm ps' := by
  induction h with
  | nil => exact fun h => ⟨_, h, .refl _⟩
  | cons x _ ih =>
    rintro ps ⟨g, t, cs, fuel, p, q, e1, e2, e3, e4, hr, rfl⟩
    obtain ⟨q', h1, h2⟩ := ih hr
    exact ⟨_, ⟨g, t, cs, fuel, p, q', e1, e2, e3, e4, h1, rfl⟩, h2.append_left _⟩
  | swap x y l =>
    rintro ps ⟨g, t, cs, fuel, p, q, e1, e2, e3, e4, ⟨g', t', cs', fuel', p', q', f1, f2, f3, f4, hr, rfl⟩, rfl⟩
    refine ⟨_, ⟨g', t', cs', fuel', p', _, f1, f2, f3, f4, ⟨g, t, cs, fuel, p, q', e1, e2, e3, e4, hr, rfl⟩, rfl⟩, ?_⟩
    have : ∀ A B C : List MemPlace, (A ++ (B ++ C)).Perm (B ++ (A ++ C)) := fun A B C => by
      rw [← List.append_assoc, ← List.append_assoc]
      exact List.perm_append_comm.append_right C
    exact this _ _ _
  | trans _ _ ih1 ih2 =>
    intro ps hp
    obtain ⟨q, h1, h2⟩ := ih1 hp
    obtain ⟨r, h3, h4⟩ := ih2 h1
    exact ⟨r, h3, h2.trans h4⟩

theorem laidMet_perm {P : Program} {w : World} {l l' : List (String × DataW Unit)} (h : l.Perm l') (hm : laidMet P l w) : laidMet P l' w := by
  obtain ⟨ps, h1, h2, h3⟩ := hm
  obtain ⟨ps', h4, h5⟩ := laidVars_perm h h1
  exact ⟨ps', h4, h5.nodup_iff.1 h2, fun b off hp => h3 b off (h5.mem_iff.2 hp)⟩
theorem laidMetH_perm {P : Program} {w : World} {l l' : List (String × DataW Unit)} (h : l.Perm l') (hm : laidMetH P l w) : laidMetH P l' w := by
  rw [laidMetH_iff] at hm ⊢
  refine ⟨laidMet_perm (h.filter _) hm.1, fun x hx => hm.2 x ?_⟩
  exact (h.filter _).mem_iff.2 hx

/-- **A tie, in another order.** -/
theorem tie_perm {P : Program} {l l' : List (String × DataW Unit)} {kinds kinds' : List LaidKind} {tests : Bool} (h : P.laidByTextLater l kinds tests) (hp : l.Perm l') (hk : l'.map (fun x => P.kindOfLater x.1) = kinds'.map some) : P.laidByTextLater l' kinds' tests := by
  obtain ⟨⟨a, b, c, _⟩, g, code, stored, h1, h2, h3, h4, h5⟩ := h
  refine ⟨⟨a, b, c, hk⟩, g, code, stored, h1, h2, h3, ?_, fun os tape hs => ?_⟩
  · rw [List.all_eq_true] at h4 ⊢
    exact fun x hx => h4 x (hp.mem_iff.2 hx)
  · obtain ⟨n, v, w', k1, k2⟩ := h5 os tape hs
    exact ⟨n, v, w', k1, laidMetH_perm hp k2⟩
end Go.Ev

/- A world in which listed tables lie. -/
namespace Go.Ev

noncomputable def litV (l : Lit) : Value :=
  match l with
  | .bool b => .bool b
  | .int k n => .int k n
  | .string bs => .string ⟨bs.toArray⟩
  | _ => .pointer none
noncomputable def flatV : Nat → DataW Unit → List Value
  | 0, _ => []
  | f + 1, d => match d with
    | .lit l => [litV l]
    | .agg ds => ds.flatMap (flatV f)
    | .nil => [.slice none 0 0]
    | _ => []
/-- Globals' cells, laid anew. -/
noncomputable def layHeap (l : List (Nat × List Value)) (h : Array Obj) : Array Obj :=
  l.foldl (fun h x => h.modify x.1 fun
    | .cells _ t f => .cells x.2.toArray t f
    | o => o) h
/-- 'V = &unicode.RangeTable{R16: .., LatinOffset: ..}': its ranges' cells, its own. -/
noncomputable def rtabR (d : DataW Unit) : List Value := match d with | .ptr (.agg (.slice es _ :: _)) => es.flatMap (flatV 3) | _ => []
noncomputable def rtabN (d : DataW Unit) : Nat := match d with | .ptr (.agg (.slice es _ :: _)) => es.length | _ => 0
noncomputable def rtabT (d : DataW Unit) : List Value := match d with | .ptr (.agg (_ :: r)) => r.flatMap (flatV 3) | _ => []

/-- The world: tables; one table of ranges (its global, the types of a range and of the table). -/
noncomputable def laidWorld (P : Program) (os : Os) (tabs : List (Nat × DataW Unit)) (g tr tt : Nat) (rt : DataW Unit) : World :=
  let w0 := World.holding P os ⟨#[], #[], []⟩
  let n := w0.heap.size
  let h1 := layHeap ((g, [Value.pointer (some ⟨n + 1, 0, none⟩)]) :: tabs.map fun x => (x.1, flatV 5 x.2)) w0.heap
  let h2 := h1.push (.cells (rtabR rt).toArray tr (0, 0))
  let h3 := h2.push (.cells (Value.slice (some ⟨n, 0, none⟩) (rtabN rt) (rtabN rt) :: rtabT rt).toArray tt (0, 0))
  { w0 with heap := h3 }
/-- The world: tables alone. -/
noncomputable def laidWorld0 (P : Program) (os : Os) (tabs : List (Nat × DataW Unit)) : World :=
  let w0 := World.holding P os ⟨#[], #[], []⟩
  { w0 with heap := layHeap (tabs.map fun x => (x.1, flatV 5 x.2)) w0.heap }
end Go.Ev

/- The evaluator, part 43: a call that is evaluated by itself: what it needs of the state, and what it leaves. -/
namespace Go.Ev

/-- A block, spelled out: cells; bytes; a map. -/
inductive LB where
  | c (e : TypeId) (op : Bool) (fz : Nat) (st : Bool) (l : List AV)
  | y (e : TypeId) (op : Bool) (fz : Nat) (st : Bool) (n v : Nat)
  | m (es : List AEnt) (clock : Nat)
/-- A call by itself: the function, what it is called with, the next id; the blocks that it reads and leaves as they are; those that it may turn; those that are there then; what it gives, the next id then. -/
structure Memo where
  f : FuncId
  args : List AV
  nx : Nat
  keep : List (Nat × LB)
  pre : List (Nat × LB)
  post : List (Nat × LB)
  v : AV
  nx' : Nat

noncomputable def lEqK (xs ys : List AV) : Bool :=
  List.rec (motive := fun _ => List AV → Bool) (fun ys => consB ys true fun _ _ => false) (fun x _ again ys => consB ys false fun y r => ifB (avEq 12 x y) (again r) false) xs ys
theorem lEqK_eq {xs ys : List AV} (h : lEqK xs ys = true) : xs = ys := lEq_eq (avEq_eq 12) xs ys h
noncomputable def eqB (a b : Bool) : Bool := ifB a b (ifB b false true)
theorem eqB_eq {a b : Bool} (h : eqB a b = true) : a = b := by cases a <;> cases b <;> first | rfl | exact nomatch (show false = true from h)
noncomputable def esEqK (xs ys : List AEnt) : Bool :=
  List.rec (motive := fun _ => List AEnt → Bool) (fun ys => List.rec true (fun _ _ _ => false) ys) (fun x _ again ys => List.rec (motive := fun _ => Bool) false (fun y r _ => ifB (avEq 12 x.key y.key) (ifB (avEq 12 x.val y.val) (ifB (Nat.beq x.born y.born) (again r) false) false) false) ys) xs ys
theorem esEqK_eq : ∀ {xs ys : List AEnt}, esEqK xs ys = true → xs = ys
  | [], [], _ => rfl
  | [], _ :: _, h => nomatch (show false = true from h)
  | _ :: _, [], h => nomatch (show false = true from h)
  | ⟨k, v, b⟩ :: xs, ⟨k', v', b'⟩ :: ys, h => by
    obtain ⟨h1, h⟩ := ifB_iff.1 (show ifB (avEq 12 k k') (ifB (avEq 12 v v') (ifB (Nat.beq b b') (esEqK xs ys) false) false) false = true from h)
    obtain ⟨h2, h⟩ := ifB_iff.1 h
    obtain ⟨h3, h⟩ := ifB_iff.1 h
    rw [avEq_eq 12 _ _ h1, avEq_eq 12 _ _ h2, Nat.eq_of_beq_eq_true h3, esEqK_eq h]

/-- Blocks laid. -/
noncomputable def layCK (b : Nat) (e : TypeId) (op : Bool) (fz : Nat) (st : Bool) (l : List AV) (σ : St) (K : St → Bool) : Bool :=
  forceN (lenL l) fun n => fillK l 0 (eCs n) fun c => hSetK b (some (.cells c n e op fz st)) σ K
noncomputable def layBK (b : Nat) (L : LB) (σ : St) (K : St → Bool) : Bool :=
  LB.rec (fun e op fz st l => layCK b e op fz st l σ K) (fun e op fz st n v => strCells n v fun l => layCK b e op fz st l σ K) (fun es k => hSetK b (some (.map es k)) σ K) L
noncomputable def laysK (l : List (Nat × LB)) (σ : St) (K : St → Bool) : Bool := List.rec (motive := fun _ => St → Bool) (fun σ => K σ) (fun x _ ih σ => layBK x.1 x.2 σ ih) l σ
/-- Is a block spelled so? -/
noncomputable def isCK (A : ABlk) (e : TypeId) (op : Bool) (fz : Nat) (st : Bool) (l : List AV) : Bool :=
  onCells A fun c n e' op' fz' st' => ifB (Nat.beq e' e) (ifB (eqB op' op) (ifB (Nat.beq fz' fz) (ifB (eqB st' st) (ifB (Nat.beq n (lenL l)) (rdK n 0 c [] fun l' => lEqK l' l) false) false) false) false) false
noncomputable def isBK (A : ABlk) (L : LB) : Bool :=
  LB.rec (fun e op fz st l => isCK A e op fz st l) (fun e op fz st n v => strCells n v fun l => isCK A e op fz st l) (fun es k => onMapB A fun es' k' => ifB (Nat.beq k' k) (esEqK es' es) false) L
noncomputable def haveK (l : List (Nat × LB)) (σ : St) (K : Bool) : Bool := List.rec K (fun x _ ih => hGetK x.1 σ fun A => ifB (isBK A x.2) ih false) l
noncomputable def dropsK (l : List (Nat × LB)) (σ : St) (K : St → Bool) : Bool := List.rec (motive := fun _ => St → Bool) (fun σ => K σ) (fun x _ ih σ => hSetK x.1 none σ ih) l σ

/-- What a block that is spelled so is. -/
def IsB : ABlk → LB → Prop
  | .cells c n e op fz st, .c e' op' fz' st' l => e = e' ∧ op = op' ∧ fz = fz' ∧ st = st' ∧ n = l.length ∧ ∀ j, j < n → c.get j = l[j]?
  | .cells c n e op fz st, .y e' op' fz' st' m v => e = e' ∧ op = op' ∧ fz = fz' ∧ st = st' ∧ n = (byteVs m v).length ∧ ∀ j, j < n → c.get j = (byteVs m v)[j]?
  | .map es k, .m es' k' => es = es' ∧ k = k'
  | _, _ => False
/-- Nothing is known behind the end. -/
def Bnd : ABlk → Prop
  | .cells c n _ _ _ _ => ∀ j, n ≤ j → c.get j = none
  | _ => True

section
variable {P : Program} {X : Fix} {e : Env} {σ : St} {w : World}

theorem isCK_ok {A : ABlk} {e : TypeId} {op : Bool} {fz : Nat} {st : Bool} {l : List AV} (h : isCK A e op fz st l = true) : ∃ c, A = .cells c l.length e op fz st ∧ ∀ j, j < l.length → c.get j = l[j]? := by
  obtain ⟨c, n, e', op', fz', st', rfl, h⟩ := onCells_iff.1 h
  obtain ⟨h1, h⟩ := ifB_iff.1 h
  obtain ⟨h2, h⟩ := ifB_iff.1 h
  obtain ⟨h3, h⟩ := ifB_iff.1 h
  obtain ⟨h4, h⟩ := ifB_iff.1 h
  obtain ⟨h5, h⟩ := ifB_iff.1 h
  have h5 : n = l.length := by rw [← lenL_eq]; exact Nat.eq_of_beq_eq_true h5
  obtain ⟨l', g1, g2, g3⟩ := rdK_ok h
  rw [List.append_nil] at g3
  have := lEqK_eq g3
  subst this
  refine ⟨c, by rw [Nat.eq_of_beq_eq_true h1, eqB_eq h2, Nat.eq_of_beq_eq_true h3, eqB_eq h4, h5], fun j hj => ?_⟩
  have := g2 j _ (List.getElem?_eq_getElem hj)
  rw [Nat.zero_add] at this
  rw [this, List.getElem?_eq_getElem hj]
theorem isBK_ok {A : ABlk} {L : LB} (h : isBK A L = true) : IsB A L := by
  cases L with
  | c e op fz st l =>
    obtain ⟨c, rfl, hg⟩ := isCK_ok (show isCK A e op fz st l = true from h)
    exact ⟨rfl, rfl, rfl, rfl, rfl, hg⟩
  | y e op fz st n v =>
    obtain ⟨c, rfl, hg⟩ := isCK_ok (strCells_eq (show strCells n v (fun l => isCK A e op fz st l) = true from h))
    exact ⟨rfl, rfl, rfl, rfl, rfl, hg⟩
  | m es k =>
    obtain ⟨es', k', rfl, h1⟩ := onMapB_iff.1 (show onMapB A (fun es' k' => ifB (Nat.beq k' k) (esEqK es' es) false) = true from h)
    obtain ⟨h2, h3⟩ := ifB_iff.1 h1
    exact ⟨esEqK_eq h3, Nat.eq_of_beq_eq_true h2⟩
theorem haveK_ok : ∀ {l : List (Nat × LB)} {K : Bool}, haveK l σ K = true → K = true ∧ ∀ b L, (b, L) ∈ l → ∃ A, σ.get b = some A ∧ IsB A L
  | [], _, h => ⟨h, fun _ _ h => by cases h⟩
  | (b0, L0) :: l, K, h => by
    obtain ⟨A, hA, h1⟩ := hGetK_iff.1 (show hGetK b0 σ (fun A => ifB (isBK A L0) (haveK l σ K) false) = true from h)
    obtain ⟨h2, h3⟩ := ifB_iff.1 h1
    obtain ⟨h4, h5⟩ := haveK_ok h3
    refine ⟨h4, fun b L hb => ?_⟩
    rcases List.mem_cons.1 hb with hb | hb
    · cases hb; exact ⟨A, hA, isBK_ok h2⟩
    · exact h5 b L hb

theorem layCK_ok {b : Nat} {e : TypeId} {op : Bool} {fz : Nat} {st : Bool} {l : List AV} {K : St → Bool} (h : layCK b e op fz st l σ K = true) : ∃ c, σ.slot b ∧ K (σ.put b (some (.cells c l.length e op fz st))) = true ∧ ∀ j, c.get j = l[j]? := by
  unfold layCK at h
  rw [forceN_eq, lenL_eq] at h
  obtain ⟨c, h1, h2⟩ := fillK_ok h
  obtain ⟨h3, h4⟩ := hSetK_iff.1 h1
  refine ⟨c, h3, h4, fun j => ?_⟩
  rw [h2]
  by_cases q : j < l.length
  · rw [if_pos (by omega)]; rfl
  · rw [if_neg (by omega), get_eCs, List.getElem?_eq_none (by omega)]
theorem layBK_ok {b : Nat} {L : LB} {K : St → Bool} (h : layBK b L σ K = true) : ∃ A, σ.slot b ∧ K (σ.put b (some A)) = true ∧ IsB A L ∧ Bnd A := by
  have bnd : ∀ {c : Cs} {l : List AV} {e op fz st}, (∀ j, c.get j = l[j]?) → Bnd (.cells c l.length e op fz st) := fun hg j hj => by rw [hg, List.getElem?_eq_none hj]
  cases L with
  | c e op fz st l =>
    obtain ⟨c, h1, h2, h3⟩ := layCK_ok (show layCK b e op fz st l σ K = true from h)
    exact ⟨_, h1, h2, ⟨rfl, rfl, rfl, rfl, rfl, fun j _ => h3 j⟩, bnd h3⟩
  | y e op fz st n v =>
    obtain ⟨c, h1, h2, h3⟩ := layCK_ok (strCells_eq (show strCells n v (fun l => layCK b e op fz st l σ K) = true from h))
    exact ⟨_, h1, h2, ⟨rfl, rfl, rfl, rfl, rfl, fun j _ => h3 j⟩, bnd h3⟩
  | m es k =>
    obtain ⟨h1, h2⟩ := hSetK_iff.1 (show hSetK b (some (.map es k)) σ K = true from h)
    exact ⟨_, h1, h2, ⟨rfl, rfl⟩, trivial⟩
theorem laysK_ok : ∀ {l : List (Nat × LB)} {σ : St} {K : St → Bool}, laysK l σ K = true →
    ∃ σ', K σ' = true ∧ σ'.nx = σ.nx ∧ σ'.df = σ.df ∧ ∀ b A, σ'.get b = some A → ((∃ L, (b, L) ∈ l ∧ IsB A L) ∧ Bnd A) ∨ (σ.get b = some A ∧ ∀ L, (b, L) ∉ l)
  | [], σ, _, h => ⟨σ, h, rfl, rfl, fun b A hA => .inr ⟨hA, fun _ h => by cases h⟩⟩
  | (b0, L0) :: l, σ, K, h => by
    obtain ⟨A0, h1, h2, h3, h4⟩ := layBK_ok (show layBK b0 L0 σ (fun σ => laysK l σ K) = true from h)
    obtain ⟨σ', g1, g2, g3, g4⟩ := laysK_ok h2
    refine ⟨σ', g1, g2, g3, fun b A hA => ?_⟩
    rcases g4 b A hA with ⟨⟨L, q1, q2⟩, q3⟩ | ⟨q1, q2⟩
    · exact .inl ⟨⟨L, List.mem_cons_of_mem _ q1, q2⟩, q3⟩
    · rw [St.get_put h1] at q1
      by_cases hb : b0 = b
      · subst hb
        rw [if_pos rfl] at q1; cases q1
        exact .inl ⟨⟨L0, List.mem_cons_self, h3⟩, h4⟩
      · rw [if_neg hb] at q1
        refine .inr ⟨q1, fun L hL => ?_⟩
        rcases List.mem_cons.1 hL with hL | hL
        · cases hL; exact hb rfl
        · exact q2 L hL
theorem dropsK_ok : ∀ {l : List (Nat × LB)} {σ : St} {K : St → Bool}, dropsK l σ K = true →
    ∃ σ', K σ' = true ∧ σ'.nx = σ.nx ∧ σ'.df = σ.df ∧ ∀ b A, σ'.get b = some A → σ.get b = some A ∧ ∀ L, (b, L) ∉ l
  | [], σ, _, h => ⟨σ, h, rfl, rfl, fun b A hA => ⟨hA, fun _ h => by cases h⟩⟩
  | (b0, L0) :: l, σ, K, h => by
    obtain ⟨h1, h2⟩ := hSetK_iff.1 (show hSetK b0 none σ (fun σ => dropsK l σ K) = true from h)
    obtain ⟨σ', g1, g2, g3, g4⟩ := dropsK_ok h2
    refine ⟨σ', g1, g2, g3, fun b A hA => ?_⟩
    obtain ⟨q1, q2⟩ := g4 b A hA
    rw [St.get_put h1] at q1
    by_cases hb : b0 = b
    · subst hb; rw [if_pos rfl] at q1; cases q1
    · rw [if_neg hb] at q1
      refine ⟨q1, fun L hL => ?_⟩
      rcases List.mem_cons.1 hL with hL | hL
      · cases hL; exact hb rfl
      · exact q2 L hL

/-- Blocks spelled alike say the same. -/
theorem BRel.alike {b : Nat} {A B : ABlk} {L : LB} {o : Obj} (hA : IsB A L) (hB : IsB B L) (hb : Bnd B) (h : BRel P e b A o) : BRel P e b B o := by
  have cells : ∀ {c c' : Cs} {n : Nat} {el : TypeId} {op : Bool} {fz : Nat} {st : Bool}, (∀ j, j < n → c'.get j = c.get j) → Bnd (.cells c' n el op fz st) → BRel P e b (.cells c n el op fz st) o → BRel P e b (.cells c' n el op fz st) o := by
    rintro c c' n el op fz st hg hbn ⟨C, lo, hi, rfl, r⟩
    refine ⟨C, lo, hi, rfl, ⟨fun j v hv => ?_, r.le, r.closed, r.opened, r.unfrozen, r.plain, hbn⟩⟩
    by_cases q : j < n
    · rw [hg j q] at hv; exact r.rel j v hv
    · rw [hbn j (by omega)] at hv; cases hv
  cases A <;> cases L <;> try exact hA.elim
  · cases B <;> try exact hB.elim
    obtain ⟨rfl, rfl⟩ := hA
    obtain ⟨rfl, rfl⟩ := hB
    exact h
  · cases B <;> try exact hB.elim
    obtain ⟨rfl, rfl, rfl, rfl, rfl, g⟩ := hA
    obtain ⟨rfl, rfl, rfl, rfl, rfl, g'⟩ := hB
    exact cells (fun j hj => (g' j hj).trans (g j hj).symm) hb h
  · cases B <;> try exact hB.elim
    obtain ⟨rfl, rfl, rfl, rfl, rfl, g⟩ := hA
    obtain ⟨rfl, rfl, rfl, rfl, rfl, g'⟩ := hB
    exact cells (fun j hj => (g' j hj).trans (g j hj).symm) hb h
theorem BRel.bnd {b : Nat} {A : ABlk} {o : Obj} (h : BRel P e b A o) : Bnd A := by
  cases A with
  | cells c n el op fz st => obtain ⟨C, lo, hi, _, r⟩ := h; exact r.bound
  | _ => trivial
end
end Go.Ev

/- The evaluator, part 44: a call that was evaluated by itself stands for the call wherever the state holds what it needs. -/
namespace Go.Ev

section
variable (P : Program) (J : DefH) (R : RecH)
/-- The call, evaluated by itself. -/
noncomputable def runMemo (H : PH) (m : Nat) (M : Memo) : Bool :=
  laysK (M.keep ++ M.pre) ⟨eT HL, M.nx, []⟩ fun σ => enterK P J R H (fun _ _ => false) m M.f M.args σ fun v σ' => ifB (avEq 12 v M.v) (ifB (Nat.beq σ'.nx M.nx') (haveK (M.keep ++ M.post) σ' true) false) false
end
/-- The call's contract. -/
noncomputable def memoK (M : Memo) (args : List AV) (σ : St) (K : AV → St → Bool) : Bool :=
  ifB (lEqK args M.args) (haveK (M.keep ++ M.pre) σ (dropsK M.pre σ fun σ => laysK M.post ⟨σ.h, M.nx', σ.df⟩ fun σ => K M.v σ)) false
/-- Contracts of some functions, and calls that were evaluated by themselves (told by the next id). -/
noncomputable def pickK (l : List Memo) (args : List AV) (σ : St) (K : AV → St → Bool) (d : Bool) : Bool :=
  List.rec d (fun M _ ih => ifB (Nat.beq σ.nx M.nx) (memoK M args σ K) ih) l
noncomputable def ofF (f : FuncId) (l : List Memo) : List Memo := List.rec [] (fun M _ ih => cond (Nat.beq M.f f) (M :: ih) ih) l
noncomputable def withMemos (I : ConH) (l : List Memo) : ConH := fun f =>
  match I f with
  | some g => some g
  | none => match ofF f l with
    | [] => none
    | M :: r => some fun args σ K d => pickK (M :: r) args σ K d

section
variable {P : Program} {J : DefH} {R : RecH} {H : PH} {m : Nat}

theorem Ret.off {X : Fix} {e : Env} {σ : St} {K : AV → St → Bool} {en : Ending} {w : World} (h : Ret P (X.on fun _ _ => false) e σ K en w) : Ret P X e σ K en w := by
  cases en with
  | returned y =>
    obtain ⟨v, e', σ', h1, h2, h3⟩ := h
    exact ⟨v, e', σ', h1, h2.off, h3⟩
  | panicked c => exact (Pan.none h).elim
  | outgrown => exact h.elim
/-- A memo's run, for whatever stays fixed. -/
def RunOk (P : Program) (f : FuncId) (E : List AV → St → (AV → St → Bool) → Bool) : Prop :=
  ∀ {X : Fix} {e : Env} {σ : St} {w : World} {args : List AV} {xs : List Value} {K : AV → St → Bool}, E args σ K = true → LRel e args xs → WRel P X e σ w → Calls P f xs.toArray w (Ret P X e σ K)

theorem memo_calls {M : Memo} (hE : RunOk P M.f (enterK P J R H (fun _ _ => false) m M.f)) (hr : runMemo P J R H m M = true) {X : Fix} {e : Env} {σ : St} {w : World} {args : List AV} {xs : List Value} {K : AV → St → Bool}
    (hn : σ.nx = M.nx) (h : memoK M args σ K = true) (hl : LRel e args xs) (hw : WRel P X e σ w) : Calls P M.f xs.toArray w (Ret P X e σ K) := by
  classical
  obtain ⟨ha, h1⟩ := ifB_iff.1 h
  have ha := lEqK_eq ha
  subst ha
  obtain ⟨h2, hhave⟩ := haveK_ok h1
  let F' : Nat → Prop := fun c => X.F c ∨ ∃ b A, σ.get b = some A ∧ (∀ L, (b, L) ∉ M.keep ++ M.pre) ∧ e.blk b = some c
  let X' : Fix := ⟨F', fun c => w.heap[c]?, X.R, X.os, X.out, X.tape, X.opq, fun _ _ => false⟩
  -- the call's own state
  obtain ⟨σp, hp1, hp2, hp3, hp4⟩ := laysK_ok (show laysK (M.keep ++ M.pre) ⟨eT HL, M.nx, []⟩ _ = true from hr)
  have hget : ∀ b A, σp.get b = some A → ∃ L A0, (b, L) ∈ M.keep ++ M.pre ∧ IsB A L ∧ Bnd A ∧ σ.get b = some A0 ∧ IsB A0 L := by
    intro b A hA
    rcases hp4 b A hA with ⟨⟨L, q1, q2⟩, q3⟩ | ⟨q1, _⟩
    · obtain ⟨A0, r1, r2⟩ := hhave b L q1
      exact ⟨L, A0, q1, q2, q3, r1, r2⟩
    · rw [show (⟨eT HL, M.nx, []⟩ : St).get b = none from get_eT _ _] at q1; cases q1
  have hwp : WRel P X' e σp w := by
    refine ⟨fun b A hA => ?_, fun b b' c A A' h1 h2 h3 h4 => ?_, fun b hb => ?_, hw.glob, fun c hc => ?_, hw.os, hw.out, hw.tape, fun b hR => ?_, hw.opq⟩
    · obtain ⟨L, A0, q1, q2, q3, q4, q5⟩ := hget b A hA
      obtain ⟨c, o, r1, r2, r3, r4⟩ := hw.blk b A0 q4
      refine ⟨c, o, r1, r2, r3.alike q5 q2 q3, ?_⟩
      rintro (g | ⟨b', A', g1, g2, g3⟩)
      · exact r4 g
      · have := hw.inj b b' c A0 A' q4 g1 r1 g3
        subst this
        exact g2 L q1
    · obtain ⟨L, A0, _, _, _, q4, _⟩ := hget b A h1
      obtain ⟨L', A0', _, _, _, q4', _⟩ := hget b' A' h2
      exact hw.inj b b' c A0 A0' q4 q4' h3 h4
    · have hb : σ.nx ≤ b := by rw [hn, ← show σp.nx = M.nx from hp2]; exact hb
      obtain ⟨q1, q2, q3⟩ := hw.fresh b hb
      refine ⟨q1, q2, ?_⟩
      cases hg : σp.get b with
      | none => rfl
      | some A =>
        obtain ⟨_, A0, _, _, _, q4, _⟩ := hget b A hg
        rw [q4] at q3; cases q3
    · rcases hc with g | ⟨b, A, g1, g2, g3⟩
      · exact ⟨(hw.old c g).1, rfl⟩
      · obtain ⟨c', o, r1, r2, _⟩ := hw.blk b A g1
        rw [g3] at r1; cases r1
        exact ⟨(Array.getElem?_eq_some_iff.1 r2).1, rfl⟩
    · obtain ⟨q1, q2⟩ := hw.res b hR
      exact ⟨by rw [show σp.nx = M.nx from hp2, ← hn]; exact q1, q2⟩
  have hcall := hE hp1 hl hwp
  -- what comes after
  obtain ⟨σd, hd1, hd2, hd3, hd4⟩ := dropsK_ok h2
  obtain ⟨σl, hl1, hl2, hl3, hl4⟩ := laysK_ok hd1
  refine Calls.mono hcall ?_
  intro en w' hret
  cases en with
  | panicked c => obtain ⟨_, _, _, _, _, _, _, _, h, _⟩ := hret; cases h
  | outgrown => exact hret.elim
  | returned y =>
    obtain ⟨v, e', σ', g1, g2, g3, g4, _⟩ := hret
    obtain ⟨c1, g4⟩ := ifB_iff.1 g4
    obtain ⟨c2, g4⟩ := ifB_iff.1 g4
    obtain ⟨-, g5⟩ := haveK_ok g4
    have c1 := avEq_eq 12 _ _ c1
    subst c1
    have c2 : σ'.nx = M.nx' := Nat.eq_of_beq_eq_true c2
    -- each block that is there then
    have hcase : ∀ b A, σl.get b = some A → (∃ L A1, (b, L) ∈ M.keep ++ M.post ∧ σ'.get b = some A1 ∧ IsB A1 L ∧ IsB A L ∧ Bnd A) ∨ (σ.get b = some A ∧ ∀ L, (b, L) ∉ M.keep ++ M.pre) := by
      intro b A hA
      rcases hl4 b A hA with ⟨⟨L, q1, q2⟩, q3⟩ | ⟨q1, q2⟩
      · obtain ⟨A1, r1, r2⟩ := g5 b L (List.mem_append_right _ q1)
        exact .inl ⟨L, A1, List.mem_append_right _ q1, r1, r2, q2, q3⟩
      · obtain ⟨q3, q4⟩ := hd4 b A q1
        by_cases hk : ∃ L, (b, L) ∈ M.keep
        · obtain ⟨L, hL⟩ := hk
          obtain ⟨A0, r1, r2⟩ := hhave b L (List.mem_append_left _ hL)
          rw [q3] at r1; cases r1
          obtain ⟨A1, s1, s2⟩ := g5 b L (List.mem_append_left _ hL)
          obtain ⟨_, _, _, _, t3, _⟩ := hw.blk b A q3
          exact .inl ⟨L, A1, List.mem_append_left _ hL, s1, s2, r2, t3.bnd⟩
        · refine .inr ⟨q3, fun L hL => ?_⟩
          rcases List.mem_append.1 hL with hL | hL
          · exact hk ⟨L, hL⟩
          · exact q4 L hL
    have hframe : ∀ b A, σ.get b = some A → (∀ L, (b, L) ∉ M.keep ++ M.pre) → ∃ c o, e'.blk b = some c ∧ w'.heap[c]? = some o ∧ BRel P e' b A o ∧ ¬ X.F c ∧ X'.F c := by
      intro b A hA hno
      obtain ⟨c, o, r1, r2, r3, r4⟩ := hw.blk b A hA
      have hF : X'.F c := .inr ⟨b, A, hA, hno, r1⟩
      exact ⟨c, o, g1.blk _ _ r1, ((g2.old c hF).2).trans r2, r3.mono g1, r4, hF⟩
    refine ⟨M.v, e', σl, g1, ⟨fun b A hA => ?_, fun b b' c A A' h1 h2 h3 h4 => ?_, fun b hb => ?_, g2.glob, fun c hc => ?_, g2.os, g2.out, g2.tape, fun b hR => ?_, g2.opq⟩, g3, hl1, by rw [hl3]; exact hd3⟩
    · rcases hcase b A hA with ⟨L, A1, _, q2, q3, q4, q5⟩ | ⟨q1, q2⟩
      · obtain ⟨c, o, r1, r2, r3, r4⟩ := g2.blk b A1 q2
        exact ⟨c, o, r1, r2, r3.alike q3 q4 q5, fun g => r4 (.inl g)⟩
      · obtain ⟨c, o, r1, r2, r3, r4, _⟩ := hframe b A q1 q2
        exact ⟨c, o, r1, r2, r3, r4⟩
    · rcases hcase b A h1 with ⟨L, A1, _, q2, _, _, _⟩ | ⟨q1, q2⟩ <;> rcases hcase b' A' h2 with ⟨L', A1', _, q2', _, _, _⟩ | ⟨q1', q2'⟩
      · exact g2.inj b b' c A1 A1' q2 q2' h3 h4
      · obtain ⟨c', o, r1, _, _, _, r5⟩ := hframe b' A' q1' q2'
        rw [h4] at r1; cases r1
        obtain ⟨c', o, s1, _, _, s4⟩ := g2.blk b A1 q2
        rw [h3] at s1; cases s1
        exact absurd r5 s4
      · obtain ⟨c', o, r1, _, _, _, r5⟩ := hframe b A q1 q2
        rw [h3] at r1; cases r1
        obtain ⟨c', o, s1, _, _, s4⟩ := g2.blk b' A1' q2'
        rw [h4] at s1; cases s1
        exact absurd r5 s4
      · obtain ⟨d, _, r1, _⟩ := hw.blk b A q1
        obtain ⟨d', _, r1', _⟩ := hw.blk b' A' q1'
        have s1 := g1.blk _ _ r1
        have s1' := g1.blk _ _ r1'
        rw [h3] at s1; cases s1
        rw [h4] at s1'; cases s1'
        exact hw.inj b b' c A A' q1 q1' r1 r1'
    · have hb : σ'.nx ≤ b := by rw [c2, ← show σl.nx = M.nx' from hl2]; exact hb
      obtain ⟨q1, q2, q3⟩ := g2.fresh b hb
      refine ⟨q1, q2, ?_⟩
      cases hg : σl.get b with
      | none => rfl
      | some A =>
        exfalso
        rcases hcase b A hg with ⟨L, A1, _, r2, _⟩ | ⟨r1, r2⟩
        · rw [r2] at q3; cases q3
        · obtain ⟨c, _, s1, _⟩ := hframe b A r1 r2
          rw [s1] at q1; cases q1
    · obtain ⟨q1, q2⟩ := g2.old c (.inl hc)
      exact ⟨q1, q2.trans (hw.old c hc).2⟩
    · obtain ⟨q1, q2⟩ := g2.res b hR
      exact ⟨by rw [show σl.nx = M.nx' from hl2, ← c2]; exact q1, q2⟩

theorem ofF_mem {f : FuncId} : ∀ {l : List Memo} {M : Memo}, M ∈ ofF f l → M ∈ l ∧ M.f = f
  | [], _, h => by cases h
  | M0 :: l, M, h => by
    have e1 : ofF f (M0 :: l) = cond (Nat.beq M0.f f) (M0 :: ofF f l) (ofF f l) := rfl
    rw [e1] at h
    cases hb : Nat.beq M0.f f with
    | true =>
      rw [hb, cond_true] at h
      rcases List.mem_cons.1 h with rfl | h
      · exact ⟨List.mem_cons_self, Nat.eq_of_beq_eq_true hb⟩
      · exact ⟨List.mem_cons_of_mem _ (ofF_mem h).1, (ofF_mem h).2⟩
    | false =>
      rw [hb, cond_false] at h
      exact ⟨List.mem_cons_of_mem _ (ofF_mem h).1, (ofF_mem h).2⟩

theorem pickK_iff {args : List AV} {σ : St} {K : AV → St → Bool} {d : Bool} : ∀ {l : List Memo}, pickK l args σ K d = true → d = true ∨ ∃ M ∈ l, σ.nx = M.nx ∧ memoK M args σ K = true
  | [], h => .inl h
  | M :: l, h => by
    have e1 : pickK (M :: l) args σ K d = ifB (Nat.beq σ.nx M.nx) (memoK M args σ K) (pickK l args σ K d) := rfl
    rw [e1] at h
    cases hb : Nat.beq σ.nx M.nx with
    | true => rw [hb, ifB_true] at h; exact .inr ⟨M, List.mem_cons_self, Nat.eq_of_beq_eq_true hb, h⟩
    | false =>
      rw [hb, ifB_false] at h
      exact (pickK_iff h).imp id fun ⟨M, h1, h2⟩ => ⟨M, List.mem_cons_of_mem _ h1, h2⟩

/-- What is known of each memo. -/
def MemoOk (P : Program) (M : Memo) : Prop :=
  ∀ {X : Fix} {e : Env} {σ : St} {w : World} {args : List AV} {xs : List Value} {K : AV → St → Bool}, σ.nx = M.nx → memoK M args σ K = true → LRel e args xs → WRel P X e σ w → OpOk P X e σ K ((callFunc M.f xs.toArray).run P w)

theorem withMemos_ok {I : ConH} {l : List Memo} (hI : ∀ X, IOk P X I) (hl : ∀ M ∈ l, MemoOk P M) (X : Fix) : IOk P X (withMemos I l) := by
  intro f g hg e σ w args xs K d h ha hw
  unfold withMemos at hg
  split at hg
  · rename_i g' hi
    cases hg
    exact hI X hi h ha hw
  · split at hg
    · cases hg
    · rename_i M r hM
      cases hg
      rcases pickK_iff h with hd | ⟨M', h1, h2, h3⟩
      · exact .inl hd
      · rw [← hM] at h1
        obtain ⟨q1, q2⟩ := ofF_mem h1
        subst q2
        exact .inr (hl M' q1 h2 h3 ha hw)

/-- **A memo that was evaluated is a memo that is so.** -/
theorem memo_ok {I : ConH} (hN : NoCount P) (hmix : P.follows .mixedOrders = true) (hI : ∀ X, IOk P X I) (hJ : ∀ X, JOk P X J) (hRec : ∀ X, ROk P X R) {m n : Nat} {M : Memo} {fn : Func} (hf : P.funcs[M.f]? = some fn) (hb : fn.body.isSome = true)
    (hr : runMemo P J R (callN P I J R m n) m M = true) : MemoOk P M := by
  intro X e σ w args xs K hn h hl hw
  obtain ⟨c, hc⟩ := Option.isSome_iff_exists.1 hb
  rw [run_callFunc hN hf hc]
  refine memo_calls (H := callN P I J R m n) (J := J) (m := m) ?_ hr hn h hl hw
  intro X e σ w args xs K h hl hw
  have := enterK_ok hN (X := X.on fun _ _ => false) (fun p => callN_all hN hmix hI hJ hRec m n (X.on p)) (drawK_ok hmix fun p Y _ hp => by subst hp; exact callN_all hN hmix hI hJ hRec m n Y) (hJ _) (hRec _) h hl (hw.on _)
  rw [run_callFunc hN hf hc] at this
  exact Calls.mono this fun en w' h => h.off
end
end Go.Ev

/- The evaluator, part 45: a law's call in a world with tables; such a law as a contract. -/
namespace Go.Ev

/-- A value without addresses. -/
noncomputable def plainV (v : AV) : Bool :=
  match v with
  | .int _ _ => true
  | .bool _ => true
  | .str _ _ => true
  | _ => false
theorem plainV_eq {e e' : Env} {v : AV} {x y : Value} (h : plainV v = true) (hx : VRel e v x) (hy : VRel e' v y) : x = y := by
  cases v <;> first | (cases hx; cases hy; rfl) | exact nomatch (show false = true from h)
theorem plainV_rel {e e' : Env} {v : AV} {x : Value} (h : plainV v = true) (hx : VRel e v x) : VRel e' v x := by
  cases v <;> first | exact hx | exact nomatch (show false = true from h)
theorem plainL_eq {e e' : Env} : ∀ {l : List AV} {xs ys : List Value}, l.all plainV = true → LRel e l xs → LRel e' l ys → xs = ys
  | [], _, _, _, h1, h2 => by cases h1; cases h2; rfl
  | v :: l, _, _, h, ⟨x, xs, h1, h2, rfl⟩, ⟨y, ys, h3, h4, rfl⟩ => by
    rw [List.all_cons, Bool.and_eq_true] at h
    rw [plainV_eq h.1 h1 h3, plainL_eq h.2 h2 h4]
theorem plainL_rel {e e' : Env} : ∀ {l : List AV} {xs : List Value}, l.all plainV = true → LRel e l xs → LRel e' l xs
  | [], _, _, h => h
  | v :: l, _, h, ⟨x, xs, h1, h2, h3⟩ => by
    rw [List.all_cons, Bool.and_eq_true] at h
    exact ⟨x, xs, plainV_rel h.1 h1, plainL_rel h.2 h2, h3⟩

/-- A table: its global, the type of its elements, its cells. -/
structure Tab where
  g : Nat
  e : TypeId
  l : List AV
def Tab.lb (t : Tab) : Nat × LB := (t.g, .c t.e false 0 false t.l)
/-- A table in a world. -/
def Tab.In (t : Tab) (w : World) : Prop := t.g < 64 ∧ t.l.all plainV = true ∧ ∃ (C : Array Value) (e : Env), w.heap[t.g]? = some (.cells C t.e (0, 0)) ∧ LRel e t.l C.toList

noncomputable def tabsK (T : List Tab) : List (Nat × LB) := T.map Tab.lb
section
variable {P : Program}

theorem tab_brel {t : Tab} {e e' : Env} {A : ABlk} {C : Array Value} (hA : IsB A t.lb.2) (hb : Bnd A) (hp : t.l.all plainV = true) (hl : LRel e' t.l C.toList) : BRel P e t.g A (.cells C t.e (0, 0)) := by
  cases A with
  | cells c n el op fz st =>
    obtain ⟨rfl, rfl, rfl, rfl, rfl, hg⟩ := hA
    have hsz : C.size = t.l.length := by rw [← Array.length_toList, hl.length]
    refine ⟨C, 0, 0, rfl, ⟨fun j v hv => ?_, (by omega), fun _ => hsz, (fun h => nomatch h), (fun j _ _ hj => by omega), fun _ => ⟨rfl, rfl⟩, hb⟩⟩
    by_cases q : j < t.l.length
    · rw [hg j q] at hv
      obtain ⟨x, hx, hr⟩ := (plainL_rel (e' := e) hp hl).get hv
      exact ⟨x, by rw [← Array.getElem?_toList]; exact hx, hr⟩
    · rw [hb j (by omega)] at hv; cases hv
  | _ => exact hA.elim
theorem tab_same {t : Tab} {e e' : Env} {A : ABlk} {C : Array Value} {o : Obj} (hA : IsB A t.lb.2) (hB : BRel P e t.g A o) (hp : t.l.all plainV = true) (hl : LRel e' t.l C.toList) : o = .cells C t.e (0, 0) := by
  cases A with
  | cells c n el op fz st =>
    obtain ⟨rfl, rfl, rfl, rfl, rfl, hg⟩ := hA
    obtain ⟨C', lo, hi, rfl, r⟩ := hB
    obtain ⟨rfl, rfl⟩ := r.plain rfl
    have hsz := r.closed rfl
    have hl' : LRel e t.l C'.toList := by
      refine LRel.of_get (by rw [Array.length_toList, hsz]) fun j v x h1 h2 => ?_
      have hj : j < t.l.length := (List.getElem?_eq_some_iff.1 h1).1
      obtain ⟨y, hy, hr⟩ := r.rel j v ((hg j hj).trans h1)
      rw [Array.getElem?_toList, hy] at h2
      cases h2; exact hr
    have := plainL_eq hp hl' hl
    rw [show C' = C from Array.toList_inj.1 this]
  | _ => exact hA.elim

/-- **A law's call, in a world with tables.** -/
theorem law_callsT {q : Nat → Option Value} {S : Op → Fr → Option AV} {I : ConH} {J : DefH} {R : RecH} {T : List Tab} (hN : NoCount P) (hmix : P.follows .mixedOrders = true) (hI : ∀ X, IOk P X I) (hJ : ∀ X, JOk P X J) (hRec : ∀ X, ROk P X R) (hS : OrcOk P q S)
    {m n : Nat} {f : FuncId} {fn : Func} {args : List AV} {xs : List Value} {W : World} (hf : P.funcs[f]? = some fn) (hb : fn.body.isSome = true) (ha : LRel (env0 q) args xs) (hT : ∀ t ∈ T, t.In W)
    (h : laysK (tabsK T) σ0 (fun σ => enterK P J R (fun p => withOrc (callN P I J R m n p) S) (fun _ _ => false) m f args σ fun v σ' => ifB (isTrueK v σ') (haveK (tabsK T) σ' true) false) = true) :
    Calls P f xs.toArray W fun e W' => e = .returned (.bool true) ∧ Go.RowKit.Below W.heap.size W W' := by
  obtain ⟨c, hc⟩ := Option.isSome_iff_exists.1 hb
  have hH : ∀ (p : AV → St → Bool) (X : Fix), X.opq = q → X.pan = p → CallHOk P X (withOrc (callN P I J R m n p) S) := fun p X hX hp => by subst hp; exact withOrc_ok (callN_all hN hmix hI hJ hRec m n X) (by rw [hX]; exact hS)
  have hmem : ∀ b L, (b, L) ∈ tabsK T → ∃ t ∈ T, t.g = b ∧ t.lb.2 = L := by
    intro b L hbL
    obtain ⟨t, h1, h2⟩ := List.mem_map.1 hbL
    cases h2
    exact ⟨t, h1, rfl, rfl⟩
  obtain ⟨σ, hk, h2, h3, h4⟩ := laysK_ok h
  have hid : ∀ j c, (env0 q).blk j = some c → j = c := by
    intro j c hj
    simp only [env0] at hj
    split at hj
    · cases hj; rfl
    · cases hj
  have hget : ∀ b A, σ.get b = some A → ∃ t ∈ T, t.g = b ∧ IsB A t.lb.2 ∧ Bnd A := by
    intro b A hA
    rcases h4 b A hA with ⟨⟨L, q1, q2⟩, q3⟩ | ⟨q1, _⟩
    · obtain ⟨t, r1, r2, rfl⟩ := hmem b L q1
      exact ⟨t, r1, r2, q2, q3⟩
    · rw [show σ0.get b = none from get_eT _ _] at q1; cases q1
  have hnx : σ.nx = 64 := h2
  have hw : WRel P (fix0 W (T.map (·.g)) q) (env0 q) σ W := by
    refine ⟨fun b A hA => ?_, fun b b' c A A' _ _ h3 h4 => (hid _ _ h3).trans (hid _ _ h4).symm, fun b hb => ⟨?_, rfl, ?_⟩, fun g hg => by simp [env0, hg], fun c hc => ⟨hc.1, rfl⟩, rfl, rfl, rfl, fun b hb => hb.elim, rfl⟩
    · obtain ⟨t, r1, rfl, r3, r4⟩ := hget b A hA
      obtain ⟨s1, s2, C, e, s3, s4⟩ := hT t r1
      exact ⟨t.g, _, by simp [env0, s1], s3, tab_brel r3 r4 s2 s4, fun hF => hF.2 (List.mem_map.2 ⟨t, r1, rfl⟩)⟩
    · have hb : 64 ≤ b := hnx ▸ hb
      simp [env0, Nat.not_lt.2 hb]
    · cases hg : σ.get b with
      | none => rfl
      | some A =>
        obtain ⟨t, r1, rfl, _⟩ := hget b A hg
        have := (hT t r1).1
        have hb : 64 ≤ t.g := hnx ▸ hb
        omega
  have hX : (fix0 W (T.map (·.g)) q).opq = q := rfl
  have hcall := enterK_ok hN (X := fix0 W (T.map (·.g)) q) (fun p => hH p (Fix.on (fix0 W (T.map (·.g)) q) p) hX rfl) (drawK_ok hmix fun p Y hY hp => hH p Y (hY.trans hX) hp) (hJ _) (hRec _) hk ha hw
  rw [run_callFunc hN hf hc] at hcall
  refine Calls.mono hcall ?_
  intro en W' hr
  cases en with
  | panicked c => obtain ⟨_, _, _, _, _, _, _, _, h, _⟩ := hr; cases h
  | outgrown => exact hr.elim
  | returned y =>
    obtain ⟨v, e', σ', k1, k2, k3, k4, _⟩ := hr
    obtain ⟨k4, k5⟩ := ifB_iff.1 k4
    obtain ⟨b, rfl, hb⟩ := onBool_iff.1 (show onBool v (fun b => b) = true from k4)
    subst hb
    have k3 : y = .bool true := k3
    obtain ⟨-, k6⟩ := haveK_ok k5
    refine ⟨by rw [k3], k2.os, k2.tape, k2.out, ?_, fun k hk => ?_⟩
    · rcases Nat.eq_zero_or_pos W.heap.size with hz | hz
      · omega
      · by_cases hm : W.heap.size - 1 ∈ T.map (·.g)
        · obtain ⟨t, r1, r2⟩ := List.mem_map.1 hm
          obtain ⟨A, s1, s2⟩ := k6 t.g _ (List.mem_map.2 ⟨t, r1, rfl⟩)
          obtain ⟨c, o, u1, u2, _⟩ := k2.blk _ _ s1
          rw [k2.glob t.g (hT t r1).1] at u1; cases u1
          have := (Array.getElem?_eq_some_iff.1 u2).1
          omega
        · have := (k2.old (W.heap.size - 1) ⟨by omega, hm⟩).1
          omega
    · by_cases hm : k ∈ T.map (·.g)
      · obtain ⟨t, r1, rfl⟩ := List.mem_map.1 hm
        obtain ⟨A, s1, s2⟩ := k6 t.g _ (List.mem_map.2 ⟨t, r1, rfl⟩)
        obtain ⟨c, o, u1, u2, u3, _⟩ := k2.blk _ _ s1
        rw [k2.glob t.g (hT t r1).1] at u1; cases u1
        obtain ⟨_, v2, C, e, v3, v4⟩ := hT t r1
        rw [u2, v3, tab_same s2 u3 v2 v4]
      · exact (k2.old k ⟨hk, hm⟩).2
end

/-- A law without arguments, as a contract: it answers true and turns nothing. -/
noncomputable def lawK (T : List Tab) (args : List AV) (σ : St) (K : AV → St → Bool) : Bool := consB args (haveK (tabsK T) σ (K (.bool true) σ)) fun _ _ => false

section
variable {P : Program} {X : Fix} {e : Env} {σ : St} {w : World}
theorem lawK_ok {T : List Tab} {f : FuncId} {fn : Func} (hN : NoCount P) (hf : P.funcs[f]? = some fn) (hb : fn.body.isSome = true) (hp : T.all (fun t => Nat.blt t.g 64 && t.l.all plainV) = true)
    (hcall : ∀ W : World, (∀ t ∈ T, t.In W) → Calls P f #[] W fun e W' => e = .returned (.bool true) ∧ Go.RowKit.Below W.heap.size W W')
    {args : List AV} {xs : List Value} {K : AV → St → Bool} (h : lawK T args σ K = true) (ha : LRel e args xs) (hw : WRel P X e σ w) : OpOk P X e σ K ((callFunc f xs.toArray).run P w) := by
  obtain ⟨c, hc⟩ := Option.isSome_iff_exists.1 hb
  cases args with
  | cons _ _ => exact nomatch (show false = true from h)
  | nil =>
    cases ha
    obtain ⟨hk, hh⟩ := haveK_ok (show haveK (tabsK T) σ (K (.bool true) σ) = true from h)
    rw [run_callFunc hN hf hc]
    refine Calls.mono (hcall w fun t ht => ?_) ?_
    · have := List.all_eq_true.1 hp t ht
      rw [Bool.and_eq_true] at this
      have hlt : t.g < 64 := Nat.lt_of_lt_of_le (Nat.lt_succ_self _) (Nat.le_of_ble_eq_true this.1)
      obtain ⟨A, s1, s2⟩ := hh t.g _ (List.mem_map.2 ⟨t, ht, rfl⟩)
      obtain ⟨c, o, u1, u2, u3, _⟩ := hw.blk _ _ s1
      rw [hw.glob t.g hlt] at u1; cases u1
      refine ⟨hlt, this.2, ?_⟩
      cases A with
      | cells c n el op fz st =>
        obtain ⟨rfl, rfl, rfl, rfl, rfl, hg⟩ := s2
        obtain ⟨C', lo, hi, rfl, r⟩ := u3
        obtain ⟨rfl, rfl⟩ := r.plain rfl
        have hsz := r.closed rfl
        refine ⟨C', e, u2, LRel.of_get (by rw [Array.length_toList, hsz]) fun j v x h1 h2 => ?_⟩
        have hj : j < t.l.length := (List.getElem?_eq_some_iff.1 h1).1
        obtain ⟨y, hy, hr⟩ := r.rel j v ((hg j hj).trans h1)
        rw [Array.getElem?_toList, hy] at h2
        cases h2; exact hr
      | _ => exact s2.elim
    · rintro en W' ⟨rfl, hB⟩
      obtain ⟨b1, b2, b3, b4, b5⟩ := hB
      refine ⟨.bool true, e, σ, Env.Le.refl e, ⟨fun b A hA => ?_, hw.inj, hw.fresh, hw.glob, fun c hc => ?_, b1.trans hw.os, b3.trans hw.out, b2.trans hw.tape, hw.res, hw.opq⟩, rfl, hk, rfl⟩
      · obtain ⟨c, o, q1, q2, q3, q4⟩ := hw.blk b A hA
        exact ⟨c, o, q1, (b5 c (Array.getElem?_eq_some_iff.1 q2).1).trans q2, q3, q4⟩
      · obtain ⟨q1, q2⟩ := hw.old c hc
        exact ⟨Nat.lt_of_lt_of_le q1 b4, (b5 c q1).trans q2⟩
end
end Go.Ev

/- The evaluator, part 46: tables that the card lists, as the evaluator's tables; a law's contract with the world's shape at hand. -/
namespace Go.Ev
section
variable {H : Type} {enc : TypeId × Value → H}

/-- 'returnsInHanded_of_change_and', with the world's shape. -/
theorem returnsInHanded_of_change_shaped {a : Assume} {C : Checked} {os : Os} {f : FuncId} {fn : Func} {s : ChangeSpec} {conds : List PathCond} {apart fresh handsOn again : Bool} {X : World → Array Value → Prop}
    (hX : ∀ (w w' : World) (args : Array Value), w.heap = w'.heap → X w args → X w' args)
    (own : ownKnob C.prog.godebug = none) (started : os.Started) (noInit : C.prog.inits.idxOf? f = none) (hfn : C.prog.funcs[f]? = some fn)
    (witness : ∃ (w : World) (tape : Tape) (i : Input), w.os = os ∧ (w.forCall tape i).Shaped C.prog ∧ i.vars = [] ∧ Input.okWide C.prog (w.forCall tape i) .any w.heap.size f i ∧
      ((s.pre enc C.prog fn conds apart (w.forCall tape i).memory i.args ∧ X (w.forCall tape i).memory i.args) ∧ sizedMet enc C.prog fn (OpenSpec.ofChange s) apart (w.forCall tape i).memory i.args) ∧ a.holds C.prog (lone (Frame.enter C.prog f i.args .normal) [] (w.forCall tape i)))
    (contract : ∀ (W : World) (base : Nat) (args : Array Value) (ds gs : List (DataW H)) (before : List MemPlace), W.ShapedOpen C.prog →
      (∀ (j : Nat) t v, fn.params[j]? = some t → args[j]? = some v → Value.okWide C.prog W .any base t v) →
      DataW.Whole enc C.prog fn.params.toList s.vars apart W args.toList ds gs before →
      conds.all (PathCond.test C.prog ⟨fn.params.toList, ds, s.plain.varTypes C.prog, gs⟩) = true →
      (DataW.weightsEach C.prog (fn.params.toList ++ s.plain.varTypes C.prog) (ds ++ gs)).all (· ≤ reachBytes) = true → X W args →
      a.holds C.prog (lone (Frame.enter C.prog f args .normal) [] W) →
      Calls C.prog f args W fun e W' => ∃ v, e = .returned v ∧ s.post enc C.prog fn apart fresh handsOn again W args v W') :
    ReturnsInHanded a C os f .any (fun w args => (s.pre enc C.prog fn conds apart w args ∧ X w args) ∧ sizedMet enc C.prog fn (OpenSpec.ofChange s) apart w args) (s.post enc C.prog fn apart fresh handsOn again) := by
  refine returnsInHanded_of_calls own started noInit witness ?_
  intro w tape i _ hsh _ hok hpre hholds
  obtain ⟨_, _, _, fn', hfn', _, _, _, _, hval⟩ := hok
  have e : fn' = fn := Option.some.inj (hfn'.symm.trans hfn)
  subst e
  obtain ⟨⟨⟨ds, gs, before, hw, hc⟩, hx⟩, hz⟩ := hpre
  have hw' := DataW.Whole.of_heap (w' := w.forCall tape i) (by rfl) hw
  refine (contract (w.forCall tape i) w.heap.size i.args ds gs before hsh hval hw' hc (hz.weights hw) (hX _ _ _ (by rfl) hx) hholds).mono fun e W' ⟨v, he, hp⟩ => ?_
  subst he
  exact ChangeSpec.post_blind hp
end

theorem laid_trod {P : Program} {w : World} {n : String} {d : DataW Unit} : ∀ {l : List (String × DataW Unit)} {ps : List MemPlace}, DataW.LaidVars P w l ps → (n, d) ∈ l →
    ∃ g t cs fuel p, P.globalNamed n = some g ∧ (P.globals[g]?).map (·.type) = some t ∧ w.var? P n = some cs ∧ DataW.trod (fun _ => ()) P w 0 (fun _ => true) false fuel t cs.toList = some (d, p)
  | [], _, _, h => by cases h
  | (n', d') :: l, ps, ⟨g, t, cs, fuel, p, q, e1, e2, e3, e4, hr, _⟩, h => by
    rcases List.mem_cons.1 h with h | h
    · cases h; exact ⟨g, t, cs, fuel, p, e1, e2, e3, e4⟩
    · exact laid_trod hr h

/-- The type of a variable's cells, as the program begins. -/
def rowT (P : Program) (g : Nat) : Option TypeId := (((begin P (fun _ _ => 0) default).world.heap[g]?).bind Obj.row?).map (·.2)

/-- **A listed table lies in the world.** -/
theorem tab_in {P : Program} {W : World} {l : List (String × DataW Unit)} {n : String} {d : DataW Unit} {g : Nat} {ty el : TypeId} {vs : List AV} (hS : W.ShapedOpen P) (hm : laidMet P l W) (hmem : (n, d) ∈ l)
    (hg : P.globalNamed n = some g) (hlt : g < 64) (hgl : g < P.globals.size) (hty : (P.globals[g]?).map (·.type) = some ty) (hflat : flatT P 5 ty = true) (hrow : rowT P g = some el) (hvs : flatD 5 d = vs) (hp : vs.all plainV = true) : Tab.In ⟨g, el, vs⟩ W := by
  subst hvs
  obtain ⟨ps, h1, _, _⟩ := hm
  obtain ⟨g', t, cs, fuel, p, e1, e2, e3, e4⟩ := laid_trod h1 hmem
  rw [hg] at e1; cases e1
  rw [hty] at e2; cases e2
  obtain ⟨⟨zero, el'⟩, hz, hel⟩ := Option.map_eq_some_iff.1 hrow
  simp only at hel
  subst hel
  obtain ⟨cs', hc, _⟩ := hS.1 g zero el' hgl hz
  refine ⟨hlt, hp, cs', env0 fun _ => none, hc, ?_⟩
  have hv : W.var? P n = some cs' := by simp [World.var?, hg, hc]
  rw [hv] at e3; cases e3
  exact flat_ok 5 fuel hflat e4
end Go.Ev

/- The evaluator, part 47: a call that was evaluated by itself stands for each call that is the same but for its blocks' ids. -/
namespace Go.Ev

/-! ### Ids that stand for each other -/
abbrev IdT : Type := TL (Option Nat) HL
noncomputable def idLook (t : IdT) (b b' : Nat) : Bool := TL.getK HL b t (optK fun x => Nat.beq x b')
theorem idLook_iff {t : IdT} {b b' : Nat} : idLook t b b' = true ↔ TL.get HL b t = some (some b') := by
  unfold idLook
  rw [TL.getK_iff]
  constructor
  · rintro ⟨v, h1, h2⟩
    obtain ⟨x, rfl, h3⟩ := optK_iff.1 h2
    rw [h1, Nat.eq_of_beq_eq_true h3]
  · intro h
    exact ⟨_, h, optK_iff.2 ⟨_, rfl, Nat.beq_refl _⟩⟩
/-- Globals by themselves; those of two trees, each the other's inverse; new ones in order. -/
noncomputable def idR (t t' : IdT) (N N' : Nat) (b b' : Nat) : Bool :=
  cond (Nat.ble (Nat.succ b) 64) (Nat.beq b b')
    (cond (Nat.ble N b) (Nat.beq (Nat.add (Nat.sub b N) N') b')
      (ifB (Nat.ble 64 b') (ifB (Nat.ble (Nat.succ b') N') (ifB (idLook t b b') (idLook t' b' b) false) false) false))
theorem idR_cases {t t' : IdT} {N N' b b' : Nat} (h : idR t t' N N' b b' = true) :
    (b < 64 ∧ b' = b) ∨ (64 ≤ b ∧ N ≤ b ∧ b' = b - N + N') ∨ (64 ≤ b ∧ b < N ∧ 64 ≤ b' ∧ b' < N' ∧ TL.get HL b t = some (some b') ∧ TL.get HL b' t' = some (some b)) := by
  unfold idR at h
  cases h1 : Nat.ble (Nat.succ b) 64 with
  | true =>
    rw [h1, cond_true] at h
    exact .inl ⟨Nat.le_of_ble_eq_true h1, (Nat.eq_of_beq_eq_true h).symm⟩
  | false =>
    have g1 : 64 ≤ b := by
      rcases Nat.lt_or_ge b 64 with q | q
      · rw [Nat.ble_eq_true_of_le q] at h1; cases h1
      · exact q
    rw [h1, cond_false] at h
    cases h2 : Nat.ble N b with
    | true =>
      rw [h2, cond_true] at h
      exact .inr (.inl ⟨g1, Nat.le_of_ble_eq_true h2, (Nat.eq_of_beq_eq_true h).symm⟩)
    | false =>
      have g2 : b < N := by
        rcases Nat.lt_or_ge b N with q | q
        · exact q
        · rw [Nat.ble_eq_true_of_le q] at h2; cases h2
      rw [h2, cond_false] at h
      obtain ⟨h3, h⟩ := ifB_iff.1 h
      obtain ⟨h4, h⟩ := ifB_iff.1 h
      obtain ⟨h5, h6⟩ := ifB_iff.1 h
      exact .inr (.inr ⟨g1, g2, Nat.le_of_ble_eq_true h3, Nat.le_of_ble_eq_true h4, idLook_iff.1 h5, idLook_iff.1 h6⟩)

section
variable {t t' : IdT} {N N' : Nat}
theorem idR_fun {b a a' : Nat} (h : idR t t' N N' b a = true) (h' : idR t t' N N' b a' = true) : a = a' := by
  rcases idR_cases h with ⟨h1, h2⟩ | ⟨h1, h2, h3⟩ | ⟨h1, h2, h3, h4, h5, h6⟩ <;> rcases idR_cases h' with ⟨k1, k2⟩ | ⟨k1, k2, k3⟩ | ⟨k1, k2, k3, k4, k5, k6⟩ <;> first | omega | skip
  rw [h5] at k5
  exact Option.some.inj (Option.some.inj k5)
theorem idR_inj (hN' : 64 ≤ N') {b b' a : Nat} (h : idR t t' N N' b a = true) (h' : idR t t' N N' b' a = true) : b = b' := by
  rcases idR_cases h with ⟨h1, h2⟩ | ⟨h1, h2, h3⟩ | ⟨h1, h2, h3, h4, h5, h6⟩ <;> rcases idR_cases h' with ⟨k1, k2⟩ | ⟨k1, k2, k3⟩ | ⟨k1, k2, k3, k4, k5, k6⟩ <;> first | omega | skip
  rw [h6] at k6
  exact Option.some.inj (Option.some.inj k6)
theorem idR_glob {g : Nat} (h : g < 64) : idR t t' N N' g g = true := by
  unfold idR
  rw [Nat.ble_eq_true_of_le (show Nat.succ g ≤ 64 from h), cond_true]
  exact Nat.beq_refl g
end

/-! ### Values that are the same but for ids -/
noncomputable def lRenW (q : AV → AV → Bool) (xs ys : List AV) : Bool :=
  List.rec (motive := fun _ => List AV → Bool) (fun ys => consB ys true fun _ _ => false) (fun x _ again ys => consB ys false fun y r => ifB (q x y) (again r) false) xs ys
noncomputable def avRenStep (r : Nat → Nat → Bool) (ih : AV → AV → Bool) (x y : AV) : Bool :=
  match x, y with
      | .bool a, .bool b => eqB a b
      | .int k a, .int k' b => ifB (Nat.beq (ikN k) (ikN k')) (eqI a b) false
      | .str l n, .str l' n' => ifB (Nat.beq l l') (Nat.beq n n') false
      | .nilp, .nilp | .nils, .nils | .nilm, .nilm | .nilf, .nilf | .niface, .niface | .eslice, .eslice => true
      | .ptr b o, .ptr b' o' => ifB (r b b') (Nat.beq o o') false
      | .map b, .map b' => r b b'
      | .slice b o l c, .slice b' o' l' c' => ifB (r b b') (ifB (Nat.beq o o') (ifB (Nat.beq l l')
          (match c, c' with | none, none => true | some m, some n => Nat.beq m n | _, _ => false) false) false) false
      | .iface t u, .iface t' u' => ifB (Nat.beq t t') (ih u u') false
      | .agg xs, .agg ys => lRenW ih xs ys
      | .tuple xs, .tuple ys => lRenW ih xs ys
      | .func (.func f) a b, .func (.func g) a' b' => ifB (Nat.beq f g) (ifB (lRenW ih a a') (lRenW ih b b') false) false
      | .func (.method f) a b, .func (.method g) a' b' => ifB (decide (f = g)) (ifB (lRenW ih a a') (lRenW ih b b') false) false
      | _, _ => false
noncomputable def avRen (r : Nat → Nat → Bool) (fuel : Nat) : AV → AV → Bool :=
  Nat.rec (motive := fun _ => AV → AV → Bool) (fun _ _ => false) (fun _ ih x y => avRenStep r ih x y) fuel
/-- Lists, each one's parts related. -/
def LQ (Q : AV → AV → Prop) : List AV → List AV → Prop
  | [], [] => True
  | x :: xs, y :: ys => Q x y ∧ LQ Q xs ys
  | _, _ => False
theorem LQ.flip {Q : AV → AV → Prop} : ∀ {xs ys : List AV}, LQ Q xs ys → LQ (fun a b => Q b a) ys xs
  | [], [], _ => trivial
  | _ :: _, _ :: _, ⟨h1, h2⟩ => ⟨h1, h2.flip⟩
  | [], _ :: _, h => h.elim
  | _ :: _, [], h => h.elim
theorem LQ.mono {Q Q' : AV → AV → Prop} (hq : ∀ a b, Q a b → Q' a b) : ∀ {xs ys : List AV}, LQ Q xs ys → LQ Q' xs ys
  | [], [], _ => trivial
  | _ :: _, _ :: _, ⟨h1, h2⟩ => ⟨hq _ _ h1, h2.mono hq⟩
  | [], _ :: _, h => h.elim
  | _ :: _, [], h => h.elim
theorem LQ.length {Q : AV → AV → Prop} : ∀ {xs ys : List AV}, LQ Q xs ys → xs.length = ys.length
  | [], [], _ => rfl
  | _ :: _, _ :: _, ⟨_, h2⟩ => by simp [h2.length]
  | [], _ :: _, h => h.elim
  | _ :: _, [], h => h.elim
theorem LQ.get {Q : AV → AV → Prop} : ∀ {xs ys : List AV} {j : Nat} {x y : AV}, LQ Q xs ys → xs[j]? = some x → ys[j]? = some y → Q x y
  | [], [], _, _, _, _, h, _ => by simp at h
  | x :: xs, y :: ys, 0, _, _, ⟨h1, _⟩, h, h' => by simp at h h'; subst h h'; exact h1
  | x :: xs, y :: ys, j + 1, _, _, ⟨_, h2⟩, h, h' => h2.get (j := j) (by simpa using h) (by simpa using h')
  | [], _ :: _, _, _, _, h, _, _ => h.elim
  | _ :: _, [], _, _, _, h, _, _ => h.elim
theorem lRenW_iff {q : AV → AV → Bool} : ∀ {xs ys : List AV}, lRenW q xs ys = true → LQ (fun a b => q a b = true) xs ys
  | [], [], _ => trivial
  | x :: xs, y :: ys, h => by
    obtain ⟨h1, h2⟩ := ifB_iff.1 (show ifB (q x y) (lRenW q xs ys) false = true from h)
    exact ⟨h1, lRenW_iff h2⟩
  | [], _ :: _, h => nomatch (show false = true from h)
  | _ :: _, [], h => nomatch (show false = true from h)

/-- Values without ids. -/
def idFree : AV → Bool
  | .eslice | .nilf | .nilm | .niface | .nils | .nilp | .str _ _ | .bool _ | .int _ _ => true
  | _ => false
theorem idFree_rel {e e' : Env} {v : AV} {x : Value} (h : idFree v = true) (hv : VRel e v x) : VRel e' v x := by
  cases v <;> first | exact hv | exact nomatch (show false = true from h)

theorem avRen_cases {r : Nat → Nat → Bool} {fuel : Nat} {v v' : AV} (h : avRen r (fuel + 1) v v' = true) :
    (v' = v ∧ idFree v = true) ∨ (∃ b b' o, v = .ptr b o ∧ v' = .ptr b' o ∧ r b b' = true) ∨ (∃ b b', v = .map b ∧ v' = .map b' ∧ r b b' = true) ∨
    (∃ b b' o l c, v = .slice b o l c ∧ v' = .slice b' o l c ∧ r b b' = true) ∨ (∃ t u u', v = .iface t u ∧ v' = .iface t u' ∧ avRen r fuel u u' = true) ∨
    (∃ xs ys, v = .agg xs ∧ v' = .agg ys ∧ LQ (fun a b => avRen r fuel a b = true) xs ys) ∨ (∃ xs ys, v = .tuple xs ∧ v' = .tuple ys ∧ LQ (fun a b => avRen r fuel a b = true) xs ys) ∨
    (∃ fn xs ys xs' ys', (∀ b, fn ≠ .yield b) ∧ v = .func fn xs ys ∧ v' = .func fn xs' ys' ∧ LQ (fun a b => avRen r fuel a b = true) xs xs' ∧ LQ (fun a b => avRen r fuel a b = true) ys ys') := by
  have h0 : avRenStep r (avRen r fuel) v v' = true := h
  unfold avRenStep at h0
  split at h0
  · exact .inl ⟨by rw [eqB_eq h0], rfl⟩
  · obtain ⟨h1, h2⟩ := ifB_iff.1 h0
    rw [eqI_eq, decide_eq_true_iff] at h2
    exact .inl ⟨by rw [ikN_inj h1, h2], rfl⟩
  · obtain ⟨h1, h2⟩ := ifB_iff.1 h0
    exact .inl ⟨by rw [Nat.eq_of_beq_eq_true h1, Nat.eq_of_beq_eq_true h2], rfl⟩
  all_goals first
    | exact .inl ⟨rfl, rfl⟩
    | skip
  · obtain ⟨h1, h2⟩ := ifB_iff.1 h0
    exact .inr (.inl ⟨_, _, _, rfl, by rw [Nat.eq_of_beq_eq_true h2], h1⟩)
  · exact .inr (.inr (.inl ⟨_, _, rfl, rfl, h0⟩))
  · obtain ⟨h1, h2⟩ := ifB_iff.1 h0
    obtain ⟨h3, h4⟩ := ifB_iff.1 h2
    obtain ⟨h5, h6⟩ := ifB_iff.1 h4
    refine .inr (.inr (.inr (.inl ⟨_, _, _, _, _, rfl, ?_, h1⟩)))
    rw [Nat.eq_of_beq_eq_true h3, Nat.eq_of_beq_eq_true h5]
    split at h6
    · rfl
    · rw [Nat.eq_of_beq_eq_true h6]
    · cases h6
  · obtain ⟨h1, h2⟩ := ifB_iff.1 h0
    exact .inr (.inr (.inr (.inr (.inl ⟨_, _, _, rfl, by rw [Nat.eq_of_beq_eq_true h1], h2⟩))))
  · exact .inr (.inr (.inr (.inr (.inr (.inl ⟨_, _, rfl, rfl, lRenW_iff h0⟩)))))
  · exact .inr (.inr (.inr (.inr (.inr (.inr (.inl ⟨_, _, rfl, rfl, lRenW_iff h0⟩))))))
  · obtain ⟨h1, h2⟩ := ifB_iff.1 h0
    obtain ⟨h3, h4⟩ := ifB_iff.1 h2
    exact .inr (.inr (.inr (.inr (.inr (.inr (.inr ⟨_, _, _, _, _, (fun b hb => by cases hb), rfl, by rw [Nat.eq_of_beq_eq_true h1], lRenW_iff h3, lRenW_iff h4⟩))))))
  · obtain ⟨h1, h2⟩ := ifB_iff.1 h0
    obtain ⟨h3, h4⟩ := ifB_iff.1 h2
    have h1 := of_decide_eq_true h1
    subst h1
    exact .inr (.inr (.inr (.inr (.inr (.inr (.inr ⟨_, _, _, _, _, (fun b hb => by cases hb), rfl, rfl, lRenW_iff h3, lRenW_iff h4⟩))))))
  · cases h0

/-- Values carried from one env to another. -/
def Car (eA eB : Env) (v v' : AV) : Prop := ∀ x, VRel eA v x → VRel eB v' x
theorem LQ.car {eA eB : Env} : ∀ {vs vs' : List AV} {xs : List Value}, LQ (Car eA eB) vs vs' → LRel eA vs xs → LRel eB vs' xs
  | [], [], _, _, h => h
  | v :: vs, v' :: vs', _, ⟨h1, h2⟩, ⟨x, xs, h3, h4, rfl⟩ => ⟨x, xs, h1 _ h3, h2.car h4, rfl⟩
  | [], _ :: _, _, h, _ => h.elim
  | _ :: _, [], _, h, _ => h.elim

/-- What carries ids. -/
structure CarI (r : Nat → Nat → Bool) (eA eB : Env) : Prop where
  blk : ∀ b b', r b b' = true → ∀ c, eA.blk b = some c → eB.blk b' = some c
  cap : ∀ b b', r b b' = true → ∀ c, eA.cap b = some c → eB.cap b' = some c

theorem grel_same {e e' : Env} {fn g : Fn} (h : ∀ b, fn ≠ .yield b) (hg : GRel e fn g) : GRel e' fn g := by
  cases fn <;> first | exact hg | exact absurd rfl (h _)

theorem avRen_car {r : Nat → Nat → Bool} {eA eB : Env} (hc : CarI r eA eB) : ∀ (fuel : Nat) {v v' : AV}, avRen r fuel v v' = true → Car eA eB v v'
  | 0, _, _, h => nomatch (show false = true from h)
  | fuel + 1, v, v', h => by
    intro x hx
    rcases avRen_cases h with ⟨rfl, h1⟩ | ⟨b, b', o, rfl, rfl, h1⟩ | ⟨b, b', rfl, rfl, h1⟩ | ⟨b, b', o, l, c, rfl, rfl, h1⟩ | ⟨t, u, u', rfl, rfl, h1⟩ | ⟨xs, ys, rfl, rfl, h1⟩ | ⟨xs, ys, rfl, rfl, h1⟩ | ⟨fn, xs, ys, xs', ys', hfn, rfl, rfl, h1, h2⟩
    · exact idFree_rel h1 hx
    · obtain ⟨a, q, rfl⟩ := hx
      exact ⟨a, hc.blk _ _ h1 _ q, rfl⟩
    · obtain ⟨a, q, rfl⟩ := hx
      exact ⟨a, hc.blk _ _ h1 _ q, rfl⟩
    · obtain ⟨a, cp, q1, q2, q3, rfl⟩ := hx
      refine ⟨a, cp, hc.blk _ _ h1 _ q1, q2, ?_, rfl⟩
      cases c with
      | none => exact fun ho => hc.cap _ _ h1 _ (q3 ho)
      | some k => exact q3
    · obtain ⟨y, q, rfl⟩ := hx
      exact ⟨y, avRen_car hc fuel h1 _ q, rfl⟩
    · obtain ⟨l, q, rfl⟩ := hx
      exact ⟨l, (h1.mono fun a b hab => avRen_car hc fuel hab).car q, rfl⟩
    · obtain ⟨l, q, rfl⟩ := hx
      exact ⟨l, (h1.mono fun a b hab => avRen_car hc fuel hab).car q, rfl⟩
    · obtain ⟨f, c, q1, q2, g, q3, rfl⟩ := hx
      exact ⟨f, c, (h1.mono fun a b hab => avRen_car hc fuel hab).car q1, (h2.mono fun a b hab => avRen_car hc fuel hab).car q2, g, grel_same hfn q3, rfl⟩
theorem avRen_car' {r : Nat → Nat → Bool} {eA eB : Env} (hc : CarI (fun a b => r b a) eA eB) : ∀ (fuel : Nat) {v v' : AV}, avRen r fuel v v' = true → Car eA eB v' v
  | 0, _, _, h => nomatch (show false = true from h)
  | fuel + 1, v, v', h => by
    intro x hx
    rcases avRen_cases h with ⟨rfl, h1⟩ | ⟨b, b', o, rfl, rfl, h1⟩ | ⟨b, b', rfl, rfl, h1⟩ | ⟨b, b', o, l, c, rfl, rfl, h1⟩ | ⟨t, u, u', rfl, rfl, h1⟩ | ⟨xs, ys, rfl, rfl, h1⟩ | ⟨xs, ys, rfl, rfl, h1⟩ | ⟨fn, xs, ys, xs', ys', hfn, rfl, rfl, h1, h2⟩
    · exact idFree_rel h1 hx
    · obtain ⟨a, q, rfl⟩ := hx
      exact ⟨a, hc.blk _ _ h1 _ q, rfl⟩
    · obtain ⟨a, q, rfl⟩ := hx
      exact ⟨a, hc.blk _ _ h1 _ q, rfl⟩
    · obtain ⟨a, cp, q1, q2, q3, rfl⟩ := hx
      refine ⟨a, cp, hc.blk _ _ h1 _ q1, q2, ?_, rfl⟩
      cases c with
      | none => exact fun ho => hc.cap _ _ h1 _ (q3 ho)
      | some k => exact q3
    · obtain ⟨y, q, rfl⟩ := hx
      exact ⟨y, avRen_car' hc fuel h1 _ q, rfl⟩
    · obtain ⟨l, q, rfl⟩ := hx
      exact ⟨l, (h1.flip.mono fun a b hab => avRen_car' hc fuel hab).car q, rfl⟩
    · obtain ⟨l, q, rfl⟩ := hx
      exact ⟨l, (h1.flip.mono fun a b hab => avRen_car' hc fuel hab).car q, rfl⟩
    · obtain ⟨f, c, q1, q2, g, q3, rfl⟩ := hx
      exact ⟨f, c, (h1.flip.mono fun a b hab => avRen_car' hc fuel hab).car q1, (h2.flip.mono fun a b hab => avRen_car' hc fuel hab).car q2, g, grel_same hfn q3, rfl⟩

/-! ### Blocks that are the same but for ids -/
noncomputable def esRenW (q : AV → AV → Bool) (xs ys : List AEnt) : Bool :=
  List.rec (motive := fun _ => List AEnt → Bool) (fun ys => List.rec true (fun _ _ _ => false) ys) (fun x _ again ys => List.rec (motive := fun _ => Bool) false (fun y r _ => ifB (q x.key y.key) (ifB (q x.val y.val) (ifB (Nat.beq x.born y.born) (again r) false) false) false) ys) xs ys
def EQ (Q : AV → AV → Prop) : List AEnt → List AEnt → Prop
  | [], [] => True
  | x :: xs, y :: ys => Q x.key y.key ∧ Q x.val y.val ∧ x.born = y.born ∧ EQ Q xs ys
  | _, _ => False
theorem esRenW_iff {q : AV → AV → Bool} : ∀ {xs ys : List AEnt}, esRenW q xs ys = true → EQ (fun a b => q a b = true) xs ys
  | [], [], _ => trivial
  | x :: xs, y :: ys, h => by
    obtain ⟨h1, h⟩ := ifB_iff.1 (show ifB (q x.key y.key) (ifB (q x.val y.val) (ifB (Nat.beq x.born y.born) (esRenW q xs ys) false) false) false = true from h)
    obtain ⟨h2, h⟩ := ifB_iff.1 h
    obtain ⟨h3, h⟩ := ifB_iff.1 h
    exact ⟨h1, h2, Nat.eq_of_beq_eq_true h3, esRenW_iff h⟩
  | [], _ :: _, h => nomatch (show false = true from h)
  | _ :: _, [], h => nomatch (show false = true from h)
theorem EQ.mono {Q Q' : AV → AV → Prop} (hq : ∀ a b, Q a b → Q' a b) : ∀ {xs ys : List AEnt}, EQ Q xs ys → EQ Q' xs ys
  | [], [], _ => trivial
  | _ :: _, _ :: _, ⟨h1, h2, h3, h4⟩ => ⟨hq _ _ h1, hq _ _ h2, h3, h4.mono hq⟩
  | [], _ :: _, h => h.elim
  | _ :: _, [], h => h.elim
theorem EQ.flip {Q : AV → AV → Prop} : ∀ {xs ys : List AEnt}, EQ Q xs ys → EQ (fun a b => Q b a) ys xs
  | [], [], _ => trivial
  | _ :: _, _ :: _, ⟨h1, h2, h3, h4⟩ => ⟨h1, h2, h3.symm, h4.flip⟩
  | [], _ :: _, h => h.elim
  | _ :: _, [], h => h.elim
theorem EQ.car {eA eB : Env} : ∀ {es es' : List AEnt} {xs : List MapEntry}, EQ (Car eA eB) es es' → EsRel eA es xs → EsRel eB es' xs
  | [], [], _, _, h => h
  | a :: es, a' :: es', _, ⟨h1, h2, h3, h4⟩, ⟨x, xs, ⟨k1, k2, k3⟩, k4, rfl⟩ => ⟨x, xs, ⟨h1 _ k1, h2 _ k2, k3.trans h3⟩, h4.car k4, rfl⟩
  | [], _ :: _, _, h, _ => h.elim
  | _ :: _, [], _, h, _ => h.elim

noncomputable def lbRen (q : AV → AV → Bool) (L L' : LB) : Bool :=
  match L, L' with
  | .c e op fz st l, .c e' op' fz' st' l' => ifB (Nat.beq e e') (ifB (eqB op op') (ifB (Nat.beq fz fz') (ifB (eqB st st') (lRenW q l l') false) false) false) false
  | .y e op fz st n v, .y e' op' fz' st' n' v' => ifB (Nat.beq e e') (ifB (eqB op op') (ifB (Nat.beq fz fz') (ifB (eqB st st') (ifB (Nat.beq n n') (Nat.beq v v') false) false) false) false) false
  | .m es k, .m es' k' => ifB (Nat.beq k k') (esRenW q es es') false
  | _, _ => false
def LBQ (Q : AV → AV → Prop) : LB → LB → Prop
  | .c e op fz st l, .c e' op' fz' st' l' => e = e' ∧ op = op' ∧ fz = fz' ∧ st = st' ∧ LQ Q l l'
  | .y e op fz st n v, .y e' op' fz' st' n' v' => e = e' ∧ op = op' ∧ fz = fz' ∧ st = st' ∧ n = n' ∧ v = v'
  | .m es k, .m es' k' => k = k' ∧ EQ Q es es'
  | _, _ => False
theorem lbRen_iff {q : AV → AV → Bool} {L L' : LB} (h : lbRen q L L' = true) : LBQ (fun a b => q a b = true) L L' := by
  unfold lbRen at h
  split at h
  · obtain ⟨h1, h⟩ := ifB_iff.1 h
    obtain ⟨h2, h⟩ := ifB_iff.1 h
    obtain ⟨h3, h⟩ := ifB_iff.1 h
    obtain ⟨h4, h⟩ := ifB_iff.1 h
    exact ⟨Nat.eq_of_beq_eq_true h1, eqB_eq h2, Nat.eq_of_beq_eq_true h3, eqB_eq h4, lRenW_iff h⟩
  · obtain ⟨h1, h⟩ := ifB_iff.1 h
    obtain ⟨h2, h⟩ := ifB_iff.1 h
    obtain ⟨h3, h⟩ := ifB_iff.1 h
    obtain ⟨h4, h⟩ := ifB_iff.1 h
    obtain ⟨h5, h6⟩ := ifB_iff.1 h
    exact ⟨Nat.eq_of_beq_eq_true h1, eqB_eq h2, Nat.eq_of_beq_eq_true h3, eqB_eq h4, Nat.eq_of_beq_eq_true h5, Nat.eq_of_beq_eq_true h6⟩
  · obtain ⟨h1, h2⟩ := ifB_iff.1 h
    exact ⟨Nat.eq_of_beq_eq_true h1, esRenW_iff h2⟩
  · cases h
theorem LBQ.mono {Q Q' : AV → AV → Prop} (hq : ∀ a b, Q a b → Q' a b) {L L' : LB} (h : LBQ Q L L') : LBQ Q' L L' := by
  cases L <;> cases L' <;> first | exact h.elim | skip
  · exact ⟨h.1, h.2.1, h.2.2.1, h.2.2.2.1, h.2.2.2.2.mono hq⟩
  · exact h
  · exact ⟨h.1, h.2.mono hq⟩
theorem LBQ.flip {Q : AV → AV → Prop} {L L' : LB} (h : LBQ Q L L') : LBQ (fun a b => Q b a) L' L := by
  cases L <;> cases L' <;> first | exact h.elim | skip
  · exact ⟨h.1.symm, h.2.1.symm, h.2.2.1.symm, h.2.2.2.1.symm, h.2.2.2.2.flip⟩
  · exact ⟨h.1.symm, h.2.1.symm, h.2.2.1.symm, h.2.2.2.1.symm, h.2.2.2.2.1.symm, h.2.2.2.2.2.symm⟩
  · exact ⟨h.1.symm, h.2.flip⟩

theorem byteVs_car {eA eB : Env} {n v : Nat} : LQ (Car eA eB) (byteVs n v) (byteVs n v) := by
  have key : ∀ l : List AV, (∀ a ∈ l, idFree a = true) → LQ (Car eA eB) l l := by
    intro l
    induction l with
    | nil => intro _; trivial
    | cons a l ih => exact fun h => ⟨fun x hx => idFree_rel (h a (by simp)) hx, ih fun b hb => h b (by simp [hb])⟩
  refine key _ fun a ha => ?_
  unfold byteVs at ha
  obtain ⟨j, _, rfl⟩ := List.mem_map.1 ha
  rfl

theorem BRel.ren {P : Program} {eA eB : Env} {b b' : Nat} {A B : ABlk} {L L' : LB} {o : Obj} (hL : LBQ (Car eA eB) L L') (hcap : ∀ k, eA.cap b = some k → eB.cap b' = some k) (hA : IsB A L) (hB : IsB B L') (hb : Bnd B) (h : BRel P eA b A o) : BRel P eB b' B o := by
  have cells : ∀ {c c' : Cs} {n n' : Nat} {el : TypeId} {op : Bool} {fz : Nat} {st : Bool} {l l' : List AV}, n = l.length → n' = l'.length → LQ (Car eA eB) l l' → (∀ j, j < n → c.get j = l[j]?) → (∀ j, j < n' → c'.get j = l'[j]?) → Bnd (.cells c' n' el op fz st) → BRel P eA b (.cells c n el op fz st) o → BRel P eB b' (.cells c' n' el op fz st) o := by
    rintro c c' n n' el op fz st l l' rfl rfl hq hg hg' hbn ⟨C, lo, hi, rfl, r⟩
    have hlen := hq.length
    refine ⟨C, lo, hi, rfl, ⟨fun j v hv => ?_, by rw [← hlen]; exact r.le, fun ho => by rw [← hlen]; exact r.closed ho, fun ho => ?_, r.unfrozen, r.plain, hbn⟩⟩
    · by_cases q : j < l'.length
      · rw [hg' j q] at hv
        have q' : j < l.length := by omega
        have hx := hg j q'
        rw [List.getElem?_eq_getElem q'] at hx
        obtain ⟨x, h1, h2⟩ := r.rel j _ hx
        exact ⟨x, h1, hq.get (List.getElem?_eq_getElem q') hv _ h2⟩
      · rw [hbn j (by omega)] at hv; cases hv
    · obtain ⟨K, i, h1, h2, h3⟩ := r.opened ho
      exact ⟨K, i, hcap _ h1, h2, h3⟩
  cases L with
  | c e op fz st l =>
    cases L' <;> try exact hL.elim
    cases A <;> try exact hA.elim
    cases B <;> try exact hB.elim
    obtain ⟨rfl, rfl, rfl, rfl, hl⟩ := hL
    obtain ⟨rfl, rfl, rfl, rfl, hn, g⟩ := hA
    obtain ⟨rfl, rfl, rfl, rfl, hn', g'⟩ := hB
    exact cells hn hn' hl g g' hb h
  | y e op fz st n v =>
    cases L' <;> try exact hL.elim
    cases A <;> try exact hA.elim
    cases B <;> try exact hB.elim
    obtain ⟨rfl, rfl, rfl, rfl, rfl, rfl⟩ := hL
    obtain ⟨rfl, rfl, rfl, rfl, hn, g⟩ := hA
    obtain ⟨rfl, rfl, rfl, rfl, hn', g'⟩ := hB
    exact cells hn hn' byteVs_car g g' hb h
  | m es k =>
    cases L' <;> try exact hL.elim
    cases A <;> try exact hA.elim
    cases B <;> try exact hB.elim
    obtain ⟨rfl, hl⟩ := hL
    obtain ⟨rfl, rfl⟩ := hA
    obtain ⟨rfl, rfl⟩ := hB
    obtain ⟨E, q1, q2⟩ := h
    exact ⟨E, q1, hl.car q2⟩

/-! ### Memos that are the same but for ids -/
noncomputable def lsRen (r : Nat → Nat → Bool) (xs ys : List (Nat × LB)) : Bool :=
  List.rec (motive := fun _ => List (Nat × LB) → Bool) (fun ys => List.rec true (fun _ _ _ => false) ys) (fun x _ again ys => List.rec (motive := fun _ => Bool) false (fun y l _ => ifB (r x.1 y.1) (ifB (lbRen (avRen r 12) x.2 y.2) (again l) false) false) ys) xs ys
theorem lsRen_right {r : Nat → Nat → Bool} : ∀ {xs ys : List (Nat × LB)}, lsRen r xs ys = true → ∀ a L', (a, L') ∈ ys → ∃ b L, (b, L) ∈ xs ∧ r b a = true ∧ lbRen (avRen r 12) L L' = true
  | [], [], _, _, _, h => by cases h
  | x :: xs, y :: ys, h, a, L', hm => by
    obtain ⟨h1, h⟩ := ifB_iff.1 (show ifB (r x.1 y.1) (ifB (lbRen (avRen r 12) x.2 y.2) (lsRen r xs ys) false) false = true from h)
    obtain ⟨h2, h⟩ := ifB_iff.1 h
    rcases List.mem_cons.1 hm with hm | hm
    · subst hm; exact ⟨x.1, x.2, List.mem_cons_self, h1, h2⟩
    · obtain ⟨b, L, q1, q2⟩ := lsRen_right h a L' hm
      exact ⟨b, L, List.mem_cons_of_mem _ q1, q2⟩
  | [], _ :: _, h, _, _, _ => nomatch (show false = true from h)
  | _ :: _, [], h, _, _, _ => nomatch (show false = true from h)
theorem lsRen_left {r : Nat → Nat → Bool} : ∀ {xs ys : List (Nat × LB)}, lsRen r xs ys = true → ∀ b L, (b, L) ∈ xs → ∃ a L', (a, L') ∈ ys ∧ r b a = true ∧ lbRen (avRen r 12) L L' = true
  | [], [], _, _, _, h => by cases h
  | x :: xs, y :: ys, h, b, L, hm => by
    obtain ⟨h1, h⟩ := ifB_iff.1 (show ifB (r x.1 y.1) (ifB (lbRen (avRen r 12) x.2 y.2) (lsRen r xs ys) false) false = true from h)
    obtain ⟨h2, h⟩ := ifB_iff.1 h
    rcases List.mem_cons.1 hm with hm | hm
    · subst hm; exact ⟨y.1, y.2, List.mem_cons_self, h1, h2⟩
    · obtain ⟨a, L', q1, q2⟩ := lsRen_left h b L hm
      exact ⟨a, L', List.mem_cons_of_mem _ q1, q2⟩
  | [], _ :: _, h, _, _, _ => nomatch (show false = true from h)
  | _ :: _, [], h, _, _, _ => nomatch (show false = true from h)

noncomputable def layIds (d : List (Nat × Nat)) (t t' : IdT) (K : IdT → IdT → Bool) : Bool :=
  List.rec (motive := fun _ => IdT → IdT → Bool) (fun t t' => K t t') (fun p _ ih t t' => TL.setK HL p.1 (some p.2) t fun u => TL.setK HL p.2 (some p.1) t' fun u' => ih u u') d t t'
theorem layIds_ok : ∀ {d : List (Nat × Nat)} {t t' : IdT} {K : IdT → IdT → Bool}, layIds d t t' K = true → ∃ u u', K u u' = true
  | [], t, t', _, h => ⟨t, t', h⟩
  | p :: d, t, t', K, h => by
    obtain ⟨_, h1⟩ := (TL.setK_iff _ _ _ _ _).1 (show TL.setK HL p.1 (some p.2) t (fun u => TL.setK HL p.2 (some p.1) t' fun u' => layIds d u u' K) = true from h)
    obtain ⟨_, h2⟩ := (TL.setK_iff _ _ _ _ _).1 h1
    exact layIds_ok h2
/-- The one memo is the other but for ids. -/
noncomputable def renMemo (M M' : Memo) (d : List (Nat × Nat)) : Bool :=
  layIds d (eT HL) (eT HL) fun t t' => ifB (Nat.beq M.f M'.f) (ifB (Nat.ble 64 M.nx) (ifB (Nat.ble 64 M'.nx) (ifB (Nat.ble M.nx M.nx') (ifB (Nat.beq (Nat.add (Nat.sub M.nx' M.nx) M'.nx) M'.nx')
    (ifB (lRenW (avRen (idR t t' M.nx M'.nx) 12) M.args M'.args) (ifB (avRen (idR t t' M.nx M'.nx) 12 M.v M'.v) (ifB (lsRen (idR t t' M.nx M'.nx) M.keep M'.keep) (ifB (lsRen (idR t t' M.nx M'.nx) M.pre M'.pre) (lsRen (idR t t' M.nx M'.nx) M.post M'.post) false) false) false) false) false) false) false) false) false
end Go.Ev

/- The evaluator, part 48: a call that was evaluated by itself, for a memo that is the same but for ids. -/
namespace Go.Ev
section
variable {P : Program} {J : DefH} {R : RecH} {H : PH} {m : Nat}

open Classical in
/-- The env of the memo's own ids. -/
noncomputable def envIn (r : Nat → Nat → Bool) (N : Nat) (e : Env) : Env :=
  ⟨fun b => if b < N then (if h : ∃ a, r b a = true then e.blk (Classical.choose h) else none) else none,
   fun b => if b < N then (if h : ∃ a, r b a = true then e.cap (Classical.choose h) else none) else none, e.opq⟩
open Classical in
/-- The env that is left: what was bound, and what the memo's ids are bound to. -/
noncomputable def envOut (r : Nat → Nat → Bool) (e e' : Env) : Env :=
  ⟨fun a => match e.blk a with | some c => some c | none => if h : ∃ b, r b a = true then e'.blk (Classical.choose h) else none,
   fun a => match e.cap a with | some c => some c | none => if h : ∃ b, r b a = true then e'.cap (Classical.choose h) else none, e.opq⟩

theorem memo_calls_ren {M M' : Memo} {d : List (Nat × Nat)} (hE : RunOk P M.f (enterK P J R H (fun _ _ => false) m M.f)) (hr : runMemo P J R H m M = true) (hren : renMemo M M' d = true) {X : Fix} {e : Env} {σ : St} {w : World} {args : List AV} {xs : List Value} {K : AV → St → Bool}
    (hn : σ.nx = M'.nx) (h : memoK M' args σ K = true) (hl : LRel e args xs) (hw : WRel P X e σ w) : Calls P M'.f xs.toArray w (Ret P X e σ K) := by
  classical
  obtain ⟨t, t', hren⟩ := layIds_ok hren
  obtain ⟨rf, hren⟩ := ifB_iff.1 hren
  obtain ⟨rN, hren⟩ := ifB_iff.1 hren
  obtain ⟨rN', hren⟩ := ifB_iff.1 hren
  obtain ⟨rG, hren⟩ := ifB_iff.1 hren
  obtain ⟨rX, hren⟩ := ifB_iff.1 hren
  obtain ⟨rA, hren⟩ := ifB_iff.1 hren
  obtain ⟨rV, hren⟩ := ifB_iff.1 hren
  obtain ⟨rK, hren⟩ := ifB_iff.1 hren
  obtain ⟨rP, rQ⟩ := ifB_iff.1 hren
  have rf := Nat.eq_of_beq_eq_true rf
  have rN : 64 ≤ M.nx := Nat.le_of_ble_eq_true rN
  have rN' : 64 ≤ M'.nx := Nat.le_of_ble_eq_true rN'
  have rG : M.nx ≤ M.nx' := Nat.le_of_ble_eq_true rG
  have rX : M.nx' - M.nx + M'.nx = M'.nx' := Nat.eq_of_beq_eq_true rX
  generalize hr0 : idR t t' M.nx M'.nx = r at rA rV rK rP rQ
  have hfun : ∀ {b a a' : Nat}, r b a = true → r b a' = true → a = a' := fun {b a a'} h h' => by subst hr0; exact idR_fun h h'
  have hinj : ∀ {b b' a : Nat}, r b a = true → r b' a = true → b = b' := fun {b b' a} h h' => by subst hr0; exact idR_inj rN' h h'
  have hglob : ∀ {g : Nat}, g < 64 → r g g = true := fun hg => by subst hr0; exact idR_glob hg
  have hrc : ∀ {b a : Nat}, r b a = true → (b < 64 ∧ a = b) ∨ (64 ≤ b ∧ M.nx ≤ b ∧ a = b - M.nx + M'.nx) ∨ (64 ≤ b ∧ b < M.nx ∧ 64 ≤ a ∧ a < M'.nx) := fun {b a} h => by
    subst hr0
    rcases idR_cases h with q | q | ⟨q1, q2, q3, q4, _⟩
    · exact .inl q
    · exact .inr (.inl q)
    · exact .inr (.inr ⟨q1, q2, q3, q4⟩)
  have hnew : ∀ {a : Nat}, M'.nx ≤ a → r (a - M'.nx + M.nx) a = true := fun {a} ha => by
    subst hr0
    unfold idR
    have h1 : Nat.ble (Nat.succ (a - M'.nx + M.nx)) 64 = false := by
      cases hb : Nat.ble (Nat.succ (a - M'.nx + M.nx)) 64
      · rfl
      · have := Nat.le_of_ble_eq_true hb; omega
    rw [h1, cond_false, Nat.ble_eq_true_of_le (by omega), cond_true]
    have h2 : Nat.add (Nat.sub (a - M'.nx + M.nx) M.nx) M'.nx = a := by
      show a - M'.nx + M.nx - M.nx + M'.nx = a
      omega
    rw [h2]
    exact Nat.beq_refl a
  clear hr0
  obtain ⟨ha, h1⟩ := ifB_iff.1 h
  have ha := lEqK_eq ha
  subst ha
  obtain ⟨h2, hhave⟩ := haveK_ok h1
  -- the memo's own env
  let e2 := envIn r M.nx e
  have e2b : ∀ {b a : Nat}, r b a = true → b < M.nx → e2.blk b = e.blk a := fun {b a} hba hb => by
    have hex : ∃ a, r b a = true := ⟨a, hba⟩
    show (if b < M.nx then (if h : ∃ a, r b a = true then e.blk (Classical.choose h) else none) else none) = _
    rw [if_pos hb, dif_pos hex, hfun (Classical.choose_spec hex) hba]
  have e2c : ∀ {b a : Nat}, r b a = true → b < M.nx → e2.cap b = e.cap a := fun {b a} hba hb => by
    have hex : ∃ a, r b a = true := ⟨a, hba⟩
    show (if b < M.nx then (if h : ∃ a, r b a = true then e.cap (Classical.choose h) else none) else none) = _
    rw [if_pos hb, dif_pos hex, hfun (Classical.choose_spec hex) hba]
  have carIn : CarI (fun a b => r b a) e e2 := by
    constructor
    · intro a b hba c hc
      rcases Nat.lt_or_ge b M.nx with hb | hb
      · rw [e2b hba hb]; exact hc
      · have : M'.nx ≤ a := by rcases hrc hba with q | q | q <;> omega
        rw [(hw.fresh a (by omega)).1] at hc; cases hc
    · intro a b hba c hc
      rcases Nat.lt_or_ge b M.nx with hb | hb
      · rw [e2c hba hb]; exact hc
      · have : M'.nx ≤ a := by rcases hrc hba with q | q | q <;> omega
        rw [(hw.fresh a (by omega)).2.1] at hc; cases hc
  have qIn : ∀ {L L' : LB}, lbRen (avRen r 12) L L' = true → LBQ (Car e e2) L' L := fun h => (lbRen_iff h).flip.mono fun a b hab => avRen_car' carIn 12 hab
  let F' : Nat → Prop := fun c => X.F c ∨ ∃ b A, σ.get b = some A ∧ (∀ L, (b, L) ∉ M'.keep ++ M'.pre) ∧ e.blk b = some c
  let X' : Fix := ⟨F', fun c => w.heap[c]?, fun b => b < M.nx ∧ ∃ a, r b a = true ∧ X.R a, X.os, X.out, X.tape, X.opq, fun _ _ => false⟩
  obtain ⟨σp, hp1, hp2, hp3, hp4⟩ := laysK_ok (show laysK (M.keep ++ M.pre) ⟨eT HL, M.nx, []⟩ _ = true from hr)
  have hget : ∀ b A, σp.get b = some A → ∃ L a L' A0, (b, L) ∈ M.keep ++ M.pre ∧ IsB A L ∧ Bnd A ∧ r b a = true ∧ (a, L') ∈ M'.keep ++ M'.pre ∧ lbRen (avRen r 12) L L' = true ∧ σ.get a = some A0 ∧ IsB A0 L' := by
    intro b A hA
    rcases hp4 b A hA with ⟨⟨L, q1, q2⟩, q3⟩ | ⟨q1, _⟩
    · obtain ⟨a, L', s1, s2, s3⟩ : ∃ a L', (a, L') ∈ M'.keep ++ M'.pre ∧ r b a = true ∧ lbRen (avRen r 12) L L' = true := by
        rcases List.mem_append.1 q1 with q | q
        · obtain ⟨a, L', s1, s2, s3⟩ := lsRen_left rK b L q
          exact ⟨a, L', List.mem_append_left _ s1, s2, s3⟩
        · obtain ⟨a, L', s1, s2, s3⟩ := lsRen_left rP b L q
          exact ⟨a, L', List.mem_append_right _ s1, s2, s3⟩
      obtain ⟨A0, r1, r2⟩ := hhave a L' s1
      exact ⟨L, a, L', A0, q1, q2, q3, s2, s1, s3, r1, r2⟩
    · rw [show (⟨eT HL, M.nx, []⟩ : St).get b = none from get_eT _ _] at q1; cases q1
  have hlt : ∀ {b a : Nat} {A0 : ABlk}, r b a = true → σ.get a = some A0 → b < M.nx := by
    intro b a A0 hba hg
    rcases Nat.lt_or_ge b M.nx with q | q
    · exact q
    · have : M'.nx ≤ a := by rcases hrc hba with q | q | q <;> omega
      rw [(hw.fresh a (by omega)).2.2] at hg; cases hg
  have hwp : WRel P X' e2 σp w := by
    refine ⟨fun b A hA => ?_, fun b b' c A A' h1 h2 h3 h4 => ?_, fun b hb => ?_, fun g hg => ?_, fun c hc => ?_, hw.os, hw.out, hw.tape, fun b hR => ?_, hw.opq⟩
    · obtain ⟨L, a, L', A0, q1, q2, q3, q4, q5, q6, q7, q8⟩ := hget b A hA
      obtain ⟨c, o, r1, r2, r3, r4⟩ := hw.blk a A0 q7
      have hb := hlt q4 q7
      refine ⟨c, o, (e2b q4 hb).trans r1, r2, r3.ren (qIn q6) (fun k hk => (e2c q4 hb).trans hk) q8 q2 q3, ?_⟩
      rintro (g | ⟨b', A', g1, g2, g3⟩)
      · exact r4 g
      · have := hw.inj a b' c A0 A' q7 g1 r1 g3
        subst this
        exact g2 L' q5
    · obtain ⟨L, a, L', A0, _, _, _, q4, _, _, q7, _⟩ := hget b A h1
      obtain ⟨L2, a2, L2', A02, _, _, _, s4, _, _, s7, _⟩ := hget b' A' h2
      rw [e2b q4 (hlt q4 q7)] at h3
      rw [e2b s4 (hlt s4 s7)] at h4
      have := hw.inj a a2 c A0 A02 q7 s7 h3 h4
      subst this
      exact hinj q4 s4
    · have hb : M.nx ≤ b := by rw [← show σp.nx = M.nx from hp2]; exact hb
      refine ⟨if_neg (by omega), if_neg (by omega), ?_⟩
      cases hg : σp.get b with
      | none => rfl
      | some A =>
        obtain ⟨_, a, _, A0, _, _, _, q4, _, _, q7, _⟩ := hget b A hg
        have := hlt q4 q7
        omega
    · rw [e2b (hglob hg) (by omega)]; exact hw.glob g hg
    · rcases hc with g | ⟨b, A, g1, g2, g3⟩
      · exact ⟨(hw.old c g).1, rfl⟩
      · obtain ⟨c', o, r1, r2, _⟩ := hw.blk b A g1
        rw [g3] at r1; cases r1
        exact ⟨(Array.getElem?_eq_some_iff.1 r2).1, rfl⟩
    · obtain ⟨hb, a, hba, ha⟩ := hR
      obtain ⟨_, q2, q3⟩ := hw.res a ha
      exact ⟨by rw [show σp.nx = M.nx from hp2]; exact hb, (e2b hba hb).trans q2, (e2c hba hb).trans q3⟩
  have hargs : LRel e2 M.args xs := ((lRenW_iff rA).flip.mono fun a b hab => avRen_car' carIn 12 hab).car hl
  have hcall := hE hp1 hargs hwp
  rw [rf] at hcall
  -- what comes after
  obtain ⟨σd, hd1, hd2, hd3, hd4⟩ := dropsK_ok h2
  obtain ⟨σl, hl1, hl2, hl3, hl4⟩ := laysK_ok hd1
  refine Calls.mono hcall ?_
  intro en w' hret
  cases en with
  | panicked c => obtain ⟨_, _, _, _, _, _, _, _, h, _⟩ := hret; cases h
  | outgrown => exact hret.elim
  | returned y =>
    obtain ⟨v, e', σ', g1, g2, g3, g4, _⟩ := hret
    obtain ⟨c1, g4⟩ := ifB_iff.1 g4
    obtain ⟨c2, g4⟩ := ifB_iff.1 g4
    obtain ⟨-, g5⟩ := haveK_ok g4
    have c1 := avEq_eq 12 _ _ c1
    subst c1
    have c2 : σ'.nx = M.nx' := Nat.eq_of_beq_eq_true c2
    let e3 := envOut r e e'
    have hle : Env.Le e e3 := by
      refine ⟨fun b c hb => ?_, fun b c hb => ?_, rfl⟩
      · show (match e.blk b with | some c => some c | none => _) = _
        rw [hb]
      · show (match e.cap b with | some c => some c | none => _) = _
        rw [hb]
    have carOut : CarI r e' e3 := by
      constructor
      · intro b a hba c hc
        show (match e.blk a with | some c => some c | none => if h : ∃ b, r b a = true then e'.blk (Classical.choose h) else none) = some c
        cases hea : e.blk a with
        | some c' =>
          have hb : b < M.nx := by
            rcases Nat.lt_or_ge b M.nx with q | q
            · exact q
            · have : M'.nx ≤ a := by rcases hrc hba with q | q | q <;> omega
              rw [(hw.fresh a (by omega)).1] at hea; cases hea
          have := g1.blk b c' ((e2b hba hb).trans hea)
          rw [hc] at this; exact this.symm
        | none =>
          have hex : ∃ b, r b a = true := ⟨b, hba⟩
          simp only [dif_pos hex]
          rw [hinj (Classical.choose_spec hex) hba]; exact hc
      · intro b a hba c hc
        show (match e.cap a with | some c => some c | none => if h : ∃ b, r b a = true then e'.cap (Classical.choose h) else none) = some c
        cases hea : e.cap a with
        | some c' =>
          have hb : b < M.nx := by
            rcases Nat.lt_or_ge b M.nx with q | q
            · exact q
            · have : M'.nx ≤ a := by rcases hrc hba with q | q | q <;> omega
              rw [(hw.fresh a (by omega)).2.1] at hea; cases hea
          have := g1.cap b c' ((e2c hba hb).trans hea)
          rw [hc] at this; exact this.symm
        | none =>
          have hex : ∃ b, r b a = true := ⟨b, hba⟩
          simp only [dif_pos hex]
          rw [hinj (Classical.choose_spec hex) hba]; exact hc
    have qOut : ∀ {L L' : LB}, lbRen (avRen r 12) L L' = true → LBQ (Car e' e3) L L' := fun h => (lbRen_iff h).mono fun a b hab => avRen_car carOut 12 hab
    -- each block that is there then
    have hcase : ∀ a A, σl.get a = some A → (∃ b L L' A1, r b a = true ∧ lbRen (avRen r 12) L L' = true ∧ σ'.get b = some A1 ∧ IsB A1 L ∧ IsB A L' ∧ Bnd A) ∨ (σ.get a = some A ∧ ∀ L, (a, L) ∉ M'.keep ++ M'.pre) := by
      intro a A hA
      rcases hl4 a A hA with ⟨⟨L', q1, q2⟩, q3⟩ | ⟨q1, q2⟩
      · obtain ⟨b, L, s1, s2, s3⟩ := lsRen_right rQ a L' q1
        obtain ⟨A1, r1, r2⟩ := g5 b L (List.mem_append_right _ s1)
        exact .inl ⟨b, L, L', A1, s2, s3, r1, r2, q2, q3⟩
      · obtain ⟨q3, q4⟩ := hd4 a A q1
        by_cases hk : ∃ L', (a, L') ∈ M'.keep
        · obtain ⟨L', hL⟩ := hk
          obtain ⟨A0, r1, r2⟩ := hhave a L' (List.mem_append_left _ hL)
          rw [q3] at r1; cases r1
          obtain ⟨b, L, s1, s2, s3⟩ := lsRen_right rK a L' hL
          obtain ⟨A1, u1, u2⟩ := g5 b L (List.mem_append_left _ s1)
          obtain ⟨_, _, _, _, t3, _⟩ := hw.blk a A q3
          exact .inl ⟨b, L, L', A1, s2, s3, u1, u2, r2, t3.bnd⟩
        · refine .inr ⟨q3, fun L hL => ?_⟩
          rcases List.mem_append.1 hL with hL | hL
          · exact hk ⟨L, hL⟩
          · exact q4 L hL
    have hframe : ∀ b A, σ.get b = some A → (∀ L, (b, L) ∉ M'.keep ++ M'.pre) → ∃ c o, e3.blk b = some c ∧ w'.heap[c]? = some o ∧ BRel P e3 b A o ∧ ¬ X.F c ∧ X'.F c := by
      intro b A hA hno
      obtain ⟨c, o, r1, r2, r3, r4⟩ := hw.blk b A hA
      have hF : X'.F c := .inr ⟨b, A, hA, hno, r1⟩
      exact ⟨c, o, hle.blk _ _ r1, ((g2.old c hF).2).trans r2, r3.mono hle, r4, hF⟩
    have hone : ∀ {a b : Nat} {c : Nat} {A1 : ABlk}, r b a = true → σ'.get b = some A1 → e3.blk a = some c → e'.blk b = some c := by
      intro a b c A1 hba hg hc
      obtain ⟨c', o, r1, _⟩ := g2.blk b A1 hg
      have := carOut.blk b a hba c' r1
      rw [hc] at this; cases this; exact r1
    refine ⟨M'.v, e3, σl, hle, ⟨fun a A hA => ?_, fun b b' c A A' h1 h2 h3 h4 => ?_, fun a ha => ?_, fun g hg => hle.blk _ _ (hw.glob g hg), fun c hc => ?_, g2.os, g2.out, g2.tape, fun a hR => ?_, hw.opq⟩, avRen_car carOut 12 rV _ g3, hl1, by rw [hl3]; exact hd3⟩
    · rcases hcase a A hA with ⟨b, L, L', A1, q1, q2, q3, q4, q5, q6⟩ | ⟨q1, q2⟩
      · obtain ⟨c, o, r1, r2, r3, r4⟩ := g2.blk b A1 q3
        exact ⟨c, o, carOut.blk b a q1 c r1, r2, r3.ren (qOut q2) (fun k hk => carOut.cap b a q1 k hk) q4 q5 q6, fun g => r4 (.inl g)⟩
      · obtain ⟨c, o, r1, r2, r3, r4, _⟩ := hframe a A q1 q2
        exact ⟨c, o, r1, r2, r3, r4⟩
    · rcases hcase b A h1 with ⟨a, L, L', A1, q1, _, q2, _, _, _⟩ | ⟨q1, q2⟩ <;> rcases hcase b' A' h2 with ⟨a', L2, L2', A1', q1', _, q2', _, _, _⟩ | ⟨q1', q2'⟩
      · have s := hone q1 q2 h3
        have s' := hone q1' q2' h4
        have := g2.inj a a' c A1 A1' q2 q2' s s'
        subst this
        exact hfun q1 q1'
      · obtain ⟨c', o, r1, _, _, _, r5⟩ := hframe b' A' q1' q2'
        rw [h4] at r1; cases r1
        obtain ⟨c', o, s1, _, _, s4⟩ := g2.blk a A1 q2
        rw [hone q1 q2 h3] at s1; cases s1
        exact absurd r5 s4
      · obtain ⟨c', o, r1, _, _, _, r5⟩ := hframe b A q1 q2
        rw [h3] at r1; cases r1
        obtain ⟨c', o, s1, _, _, s4⟩ := g2.blk a' A1' q2'
        rw [hone q1' q2' h4] at s1; cases s1
        exact absurd r5 s4
      · obtain ⟨d, _, r1, _⟩ := hw.blk b A q1
        obtain ⟨d', _, r1', _⟩ := hw.blk b' A' q1'
        have s1 := hle.blk _ _ r1
        have s1' := hle.blk _ _ r1'
        rw [h3] at s1; cases s1
        rw [h4] at s1'; cases s1'
        exact hw.inj b b' c A A' q1 q1' r1 r1'
    · have ha : M'.nx' ≤ a := by rw [← show σl.nx = M'.nx' from hl2]; exact ha
      have ha' : M'.nx ≤ a := by omega
      obtain ⟨q1, q2, q3⟩ := hw.fresh a (by omega)
      have hba := hnew ha'
      obtain ⟨s1, s2, s3⟩ := g2.fresh (a - M'.nx + M.nx) (by omega)
      have hex : ∃ b, r b a = true := ⟨_, hba⟩
      have hch : Classical.choose hex = a - M'.nx + M.nx := hinj (Classical.choose_spec hex) hba
      refine ⟨?_, ?_, ?_⟩
      · show (match e.blk a with | some c => some c | none => if h : ∃ b, r b a = true then e'.blk (Classical.choose h) else none) = none
        rw [q1]
        simp only [dif_pos hex]
        rw [hch]; exact s1
      · show (match e.cap a with | some c => some c | none => if h : ∃ b, r b a = true then e'.cap (Classical.choose h) else none) = none
        rw [q2]
        simp only [dif_pos hex]
        rw [hch]; exact s2
      · cases hg : σl.get a with
        | none => rfl
        | some A =>
          exfalso
          rcases hcase a A hg with ⟨b, L, L', A1, r1, _, r2, _⟩ | ⟨r1, r2⟩
          · have := hinj r1 hba
            subst this
            rw [r2] at s3; cases s3
          · rw [q3] at r1; cases r1
    · obtain ⟨q1, q2⟩ := g2.old c (.inl hc)
      exact ⟨q1, q2.trans (hw.old c hc).2⟩
    · obtain ⟨q1, q2, q3⟩ := hw.res a hR
      refine ⟨by rw [show σl.nx = M'.nx' from hl2]; omega, ?_, ?_⟩
      · show (match e.blk a with | some c => some c | none => if h : ∃ b, r b a = true then e'.blk (Classical.choose h) else none) = none
        rw [q2]
        by_cases hex : ∃ b, r b a = true
        · simp only [dif_pos hex]
          have hba := Classical.choose_spec hex
          have hb : Classical.choose hex < M.nx := by rcases hrc hba with q | q | q <;> omega
          exact (g2.res _ ⟨hb, a, hba, hR⟩).2.1
        · simp only [dif_neg hex]
      · show (match e.cap a with | some c => some c | none => if h : ∃ b, r b a = true then e'.cap (Classical.choose h) else none) = none
        rw [q3]
        by_cases hex : ∃ b, r b a = true
        · simp only [dif_pos hex]
          have hba := Classical.choose_spec hex
          have hb : Classical.choose hex < M.nx := by rcases hrc hba with q | q | q <;> omega
          exact (g2.res _ ⟨hb, a, hba, hR⟩).2.2
        · simp only [dif_neg hex]

/-- **A memo that was evaluated is each memo that is the same but for ids.** -/
theorem memo_ok_ren {I : ConH} (hN : NoCount P) (hmix : P.follows .mixedOrders = true) (hI : ∀ X, IOk P X I) (hJ : ∀ X, JOk P X J) (hRec : ∀ X, ROk P X R) {m n : Nat} {M M' : Memo} {d : List (Nat × Nat)} {fn : Func} (hf : P.funcs[M.f]? = some fn) (hb : fn.body.isSome = true)
    (hr : runMemo P J R (callN P I J R m n) m M = true) (hren : renMemo M M' d = true) : MemoOk P M' := by
  intro X e σ w args xs K hn h hl hw
  obtain ⟨c, hc⟩ := Option.isSome_iff_exists.1 hb
  have hff : M.f = M'.f := by
    obtain ⟨t, t', h0⟩ := layIds_ok hren
    exact Nat.eq_of_beq_eq_true (ifB_iff.1 h0).1
  rw [run_callFunc hN (hff ▸ hf) hc]
  refine memo_calls_ren (H := callN P I J R m n) (J := J) (m := m) ?_ hr hren hn h hl hw
  intro X e σ w args xs K h hl hw
  have := enterK_ok hN (X := X.on fun _ _ => false) (fun p => callN_all hN hmix hI hJ hRec m n (X.on p)) (drawK_ok hmix fun p Y _ hp => by subst hp; exact callN_all hN hmix hI hJ hRec m n Y) (hJ _) (hRec _) h hl (hw.on _)
  rw [run_callFunc hN hf hc] at this
  exact Calls.mono this fun en w' h => h.off
end
end Go.Ev
