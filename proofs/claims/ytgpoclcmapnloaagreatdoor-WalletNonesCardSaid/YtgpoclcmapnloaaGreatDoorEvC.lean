/-
  An evaluator of the model's programs over abstract values and memory, part C: what it answers is true of every run.
-/
import Derived.Test.YtgpoclcmapnloaaGreatDoorEvB
import Derived.OrdersIn
import Derived.RangeFuncLeaves
import Derived.Scope
import Derived.RangeFuncNested
import Derived.Defers
import Derived.DefersIn
import Derived.Orders
set_option linter.unusedVariables false
set_option linter.unusedSimpArgs false
/- The evaluator, part 25: regions in their order. -/
namespace Go.Ev

/-- A fence that lets all in; of a function's activations, or of a round's. -/
def wideR (ro : Option Nat) : Fence := { fn := fun _ => True, depth := none, alive := false, round := ro }
theorem callsIn_wideR {ro : Option Nat} {n : Nat} {P : Program} {f : FuncId} {args : Array Value} {w : World} {R : Ending → World → Prop} (h : Calls P f args w R) : CallsIn (wideR ro) n P f args w R :=
  (callsIn_wide (n := n)).2 h
theorem roundIn_wideR {ro : Option Nat} {n m : Nat} {P : Program} {l : Nat} {f : FuncId} {tmps : Array Value} {assign body : Code} {w : World} {R : Ending → World → Prop} (h : RoundIn Fence.wide m P l f tmps assign body w R) : RoundIn (wideR ro) n P l f tmps assign body w R :=
  ⟨trivial, fun c cs _ => h.2 c cs (room_wide _)⟩
/-- Code that defers nothing, or a function's own. -/
def NDef (ro : Option Nat) (op : Op) : Prop := ro = none ∨ ∀ c, op ≠ .defer c
theorem semAt_ndef {ro : Option Nat} {o : Oper} {ρ : Operand → Value} (h : NDef ro o.op) : o.semAt ro ρ = execOp ρ o := by
  rcases h with rfl | h
  · rfl
  · exact Oper.semAt_eq ro ρ o h
section
variable {P : Program} {X : Fix} {e : Env} {σ : St} {w : World}

/-- An activation and a world that answer to a frame and a state that the evaluator goes on with. -/
def Nxt (P : Program) (X : Fix) (e : Env) (K : Fr → St → Bool) (a : Act) (w : World) : Prop :=
  ∃ e' fr σ, Env.Le e e' ∧ WRel P X e' σ w ∧ FRel e' fr a.tmps ∧ DRel e' σ.df a.defers ∧ K fr σ = true
theorem Nxt.up {e e' : Env} {K : Fr → St → Bool} {a : Act} (hle : Env.Le e e') (h : Nxt P X e' K a w) : Nxt P X e K a w := by
  obtain ⟨e2, fr, σ, h1, h2⟩ := h
  exact ⟨e2, fr, σ, hle.trans h1, h2⟩

/-- A panic and an activation that answer to the evaluator's. -/
def PanAt (P : Program) (X : Fix) (e : Env) (PC : PanC) (c : List PanicEntry) (a : Act) (w : World) : Prop :=
  ∃ v x ofr e' σ, Env.Le e e' ∧ WRel P X e' σ w ∧ VRel e' v x ∧ c = [{ v := x, recovered := false }] ∧ (∀ fr, ofr = some fr → FRel e' fr a.tmps) ∧ DRel e' σ.df a.defers ∧ PC v ofr σ = true
theorem PanAt.up {e e' : Env} {PC : PanC} {c : List PanicEntry} {a : Act} (hle : Env.Le e e') (h : PanAt P X e' PC c a w) : PanAt P X e PC c a w := by
  obtain ⟨v, x, ofr, e2, σ, h1, h2⟩ := h
  exact ⟨v, x, ofr, e2, σ, hle.trans h1, h2⟩

theorem Act.put_some (a : Act) (t : Nat) (x : Value) : (a.put (some t) x).tmps = a.tmps.setIfInBounds t x := rfl
theorem Act.put_defers (a : Act) (d : Option Tmp) (x : Value) : (a.put d x).defers = a.defers := by cases d <;> rfl

theorem FRel.put {fr : Fr} {a : Act} {t : Nat} {v : AV} {x : Value} (h : FRel e fr a.tmps) (hs : ∃ u, (TL.get 2 t fr).join = some u) (hv : VRel e v x) : FRel e (TL.set 2 t (some v) fr) (a.put (some t) x).tmps := by
  intro j u hu
  rw [fr_get_set hs] at hu
  rw [Act.put_some]
  by_cases q : t = j
  · subst q
    rw [if_pos rfl] at hu; cases hu
    obtain ⟨u0, hu0⟩ := hs
    obtain ⟨y, hy, _⟩ := h t u0 hu0
    have hlt := (Array.getElem?_eq_some_iff.1 hy).1
    exact ⟨x, by rw [Array.getElem?_setIfInBounds_self_of_lt hlt], hv⟩
  · rw [if_neg q] at hu
    obtain ⟨y, hy, hr⟩ := h j u hu
    exact ⟨y, by rw [Array.getElem?_setIfInBounds_ne q]; exact hy, hr⟩

theorem putK_ok {d : Option Nat} {v : AV} {x : Value} {fr : Fr} {a : Act} {K : Fr → Bool} (h : putK d v fr K = true) (hf : FRel e fr a.tmps) (hv : VRel e v x) : ∃ fr', FRel e fr' (a.put d x).tmps ∧ K fr' = true := by
  cases d with
  | none => exact ⟨fr, hf, h⟩
  | some t =>
    obtain ⟨h1, h2⟩ := frSetK_iff.1 (show frSetK t v fr K = true from h)
    exact ⟨_, hf.put h1 hv, h2⟩

theorem dstOf_eq : ∀ (all : List Oper) (j : Nat), dstOf all j = (all[j]?).bind (·.dst)
  | [], j => by simp [dstOf]
  | o :: all, 0 => rfl
  | o :: all, j + 1 => by
    have := dstOf_eq all j
    simpa [dstOf] using this

theorem onBoolT_iff {v : AV} {K : Bool → Bool} {N : Bool} (h : onBoolT v K N = true) : (∃ b, v = .bool b ∧ K b = true) ∨ (N = true ∧ ∀ {x}, VRel e v x → ∀ b, x ≠ .bool b) := by
  cases v with
  | bool b => exact .inl ⟨b, rfl, h⟩
  | tuple l => exact .inr ⟨h, fun hv b hb => by obtain ⟨_, _, rfl⟩ := hv; cases hb⟩
  | _ => exact nomatch (show false = true from h)

/-- Wanted or not: as the model has it. -/
theorem wantK_ok {all : List Oper} {o : Oper} {fr : Fr} {a : Act} {Y N : Bool} (h : wantK all o fr Y N = true) (hf : ∀ g d, o.guard = some g → (all[g.1]?).bind (·.dst) = some d → ∀ v, (TL.get 2 d fr).join = some v → ∃ x, a.tmps[d]? = some x ∧ VRel e v x) :
    (Region.wanted o (yielded all.toArray a.tmps) = true ∧ Y = true) ∨ (Region.wanted o (yielded all.toArray a.tmps) = false ∧ N = true) := by
  cases hg : o.guard with
  | none =>
    unfold wantK at h
    rw [hg, optB_none] at h
    exact .inl ⟨by simp [Region.wanted, hg], h⟩
  | some g =>
    unfold wantK at h
    rw [hg, optB_some] at h
    obtain ⟨d, hd, h1⟩ := optK_iff.1 h
    rw [dstOf_eq] at hd
    obtain ⟨v, hv, h2⟩ := frGetK_iff.1 h1
    obtain ⟨x, hx, hr⟩ := hf g d hg hd v hv
    have hy : yielded all.toArray a.tmps g.1 = (match x with | .bool b => some b | _ => none) := by
      unfold yielded
      rw [List.getElem?_toArray, hd]
      simp only [Option.bind_some, hx]
      cases x <;> rfl
    rcases onBoolT_iff (e := e) h2 with ⟨b, rfl, h3⟩ | ⟨h3, h4⟩
    · cases hr
      obtain ⟨g1, g2⟩ := g
      have hy' : yielded all.toArray a.tmps g1 = some b := hy
      cases b <;> cases g2 <;> simp [Region.wanted, hg, hy', ifB] at h3 ⊢ <;> exact h3
    · obtain ⟨g1, g2⟩ := g
      have hy' : yielded all.toArray a.tmps g1 = none := by
        rw [hy]
        cases x <;> first | rfl | exact absurd rfl (h4 hr _)
      exact .inr ⟨by simp [Region.wanted, hg, hy'], h3⟩

theorem wantK_frel {all : List Oper} {o : Oper} {fr : Fr} {a : Act} (hf : FRel e fr a.tmps) : ∀ (g : Nat × Bool) (d : Nat), o.guard = some g → (all[g.1]?).bind (·.dst) = some d → ∀ v, (TL.get 2 d fr).join = some v → ∃ x, a.tmps[d]? = some x ∧ VRel e v x :=
  fun _ d _ _ v hv => hf d v hv

/-- An operation done, and what comes after it. -/
theorem upon_ok {ro : Option Nat} {n : Nat} {o : Oper} {a : Act} {fr : Fr} {K : Fr → St → Bool} {next : Act → World → Prop} {Q : Exit → Act → World → Prop} {r : Result Next}
    (h : OpOk P X e σ (fun v σ => putK o.dst v fr fun fr => K fr σ) r) (hf : FRel e fr a.tmps) (hd : DRel e σ.df a.defers)
    (hn : ∀ e' fr' σ' a' w', Env.Le e e' → WRel P X e' σ' w' → FRel e' fr' a'.tmps → DRel e' σ'.df a'.defers → K fr' σ' = true → next a' w') (hp : ∀ c w', Pan P X e σ.df c w' → Q (.panic c) a w') : o.uponIn (wideR ro) n P a next Q r := by
  have fin : ∀ {v : AV} {y : Value} {e' : Env} {σ' : St} {w' : World}, Env.Le e e' → WRel P X e' σ' w' → VRel e' v y → putK o.dst v fr (fun fr => K fr σ') = true → σ'.df = σ.df → next (a.put o.dst y) w' := by
    intro v y e' σ' w' h1 h2 h3 h4 h5
    obtain ⟨fr', g1, g2⟩ := putK_ok h4 (hf.mono h1) h3
    exact hn e' fr' σ' _ w' h1 h2 g1 (by rw [Act.put_defers, h5]; exact hd.mono h1) g2
  match r with
  | .ok (.value y) w' =>
    obtain ⟨v, e', σ', h1, h2, h3, h4, h5⟩ := h
    exact fin h1 h2 h3 h4 h5
  | .ok .skip w' =>
    obtain ⟨e', σ', h1, h2, h4, h5⟩ := h
    exact fin h1 h2 (show VRel e' .undef undef from ⟨[], rfl, rfl⟩) h4 h5
  | .ok (.defer d) w' =>
    obtain ⟨_, x, σ', h2, h4, h5, h6⟩ := h
    obtain ⟨fr', g1, g2⟩ := putK_ok (a := { a with defers := d :: a.defers }) (x := undef) h4 hf ⟨[], rfl, rfl⟩
    refine hn e fr' σ' _ w' (Env.Le.refl e) h2 g1 ?_ g2
    rw [Act.put_defers, h5]
    obtain ⟨d', ds, cap, args, r1, r2, r3, r4, r5⟩ := h6
    cases r4
    cases r5
    exact ⟨_, _, cap, args, r1, r2, r3, hd, rfl⟩
  | .ok (.enter f args) w' =>
    refine ⟨fun hh => absurd hh (by simp [wideR]), callsIn_wideR (Calls.mono h ?_)⟩
    intro en w'' hr
    cases en with
    | returned y =>
      obtain ⟨v, e', σ', h1, h2, h3, h4, h5⟩ := hr
      exact fin h1 h2 h3 h4 h5
    | panicked c => exact hp c w'' hr
    | outgrown => exact hr.elim
  | .ok (.row _ _) _ => exact h.elim
  | .ok (.round l f tmps assign body) w' =>
    refine ⟨fun hh => absurd hh (by simp [wideR]), roundIn_wideR (RoundIn.mono h ?_)⟩
    intro en w'' hr
    cases en with
    | returned y =>
      obtain ⟨v, e', σ', h1, h2, h3, h4, h5⟩ := hr
      exact fin h1 h2 h3 h4 h5
    | panicked c => exact hp c w'' hr
    | outgrown => exact hr.elim
  | .ok .recover _ => exact h.elim
  | .ok (.spawn _) _ => exact h.elim
  | .ok (.comm _ _ _) _ => exact h.elim
  | .ok .numGoroutine _ => exact h.elim
  | .ok .collect _ => exact h.elim
  | .ok (.watch _) _ => exact h.elim
  | .ok (.newcoro _ _) _ => exact h.elim
  | .halt (.panic x) w' => exact hp _ w' h
  | .halt .blocked _ => exact h.elim
  | .halt .waiting _ => exact h.elim
  | .halt (.exit _) _ => exact h.elim
  | .halt (.fatal _) _ => exact h.elim
  | .halt (.throw _) _ => exact h.elim
  | .halt .goexit _ => exact h.elim
  | .halt (.unsupported _) _ => exact h.elim
  | .halt (.stuck _) _ => exact h.elim

theorem opsK_ok {ro : Option Nat} {n : Nat} {cH : PH} {PC : PanC} (hH : ∀ p, CallHOk P (X.on p) (cH p)) {all : List Oper} (hnd : ∀ o ∈ all, NDef ro o.op) {Q : Exit → Act → World → Prop} : ∀ (l pre : List Oper), all = pre ++ l → ∀ {e : Env} {σ : St} {fr : Fr} {a : Act} {w : World} {K : Fr → St → Bool},
    opsK P cH PC all l fr σ K = true → WRel P X e σ w → FRel e fr a.tmps → DRel e σ.df a.defers → (∀ a w, Nxt P X e K a w → Q .normal a w) → (∀ c a w, PanAt P X e PC c a w → Q (.panic c) a w) → wpOpsIn (wideR ro) n P all.toArray Q (List.range' pre.length l.length) a w
  | [], pre, _, e, σ, fr, a, w, K, h, hw, hf, hd, hQ, _ => hQ a w ⟨e, fr, σ, Env.Le.refl e, hw, hf, hd, h⟩
  | o :: l, pre, hall, e, σ, fr, a, w, K, h, hw, hf, hd, hQ, hP => by
    have hget : all.toArray[pre.length]? = some o := by subst hall; simp
    have h0 : operK P cH PC all o fr σ (fun fr σ => opsK P cH PC all l fr σ K) = true := h
    have rest : ∀ {e' fr' σ' a' w'}, Env.Le e e' → WRel P X e' σ' w' → FRel e' fr' a'.tmps → DRel e' σ'.df a'.defers → opsK P cH PC all l fr' σ' K = true → wpOpsIn (wideR ro) n P all.toArray Q (List.range' (pre.length + 1) l.length) a' w' := by
      intro e' fr' σ' a' w' hle g1 g2 g3 g4
      have := opsK_ok (n := n) hH hnd l (pre ++ [o]) (by simp [hall]) g4 g1 g2 g3 (fun a w hn => hQ a w (hn.up hle)) (fun c a w hn => hP c a w (hn.up hle))
      simpa using this
    rw [List.length_cons, List.range'_succ]
    simp only [wpOpsIn, hget]
    rcases wantK_ok h0 (wantK_frel hf) with ⟨h1, h2⟩ | ⟨h1, h2⟩
    · rw [if_pos h1]
      refine ⟨fun _ _ => trivial, ?_⟩
      rw [show (wideR ro).round = ro from rfl, semAt_ndef (hnd o (by rw [hall]; simp))]
      have h3 := dispatch_ok (hH fun v τ => PC v (some fr) τ) (o := o) (a := a) (fun x _ => hf.ook x) h2 (hw.on _)
      refine upon_ok h3 hf hd (fun e' fr' σ' a' w' g0 g1 g2 g3 g4 => rest g0 g1.off g2 g3 g4) ?_
      rintro c w' ⟨v, x, e', σ', g1, g2, g3, g4, g5, g6⟩
      exact hP c a w' ⟨v, x, some fr, e', σ', g1, g2.off, g3, g4, fun fr' hfr => by cases hfr; exact hf.mono g1, by rw [g6]; exact hd.mono g1, g5⟩
    · rw [h1]
      simp only [Bool.false_eq_true, if_false]
      obtain ⟨fr', g1, g2⟩ := putK_ok (x := undef) h2 hf ⟨[], rfl, rfl⟩
      exact ⟨fun _ _ => trivial, rest (Env.Le.refl e) hw g1 (by rw [Act.put_defers]; exact hd) g2⟩
end
end Go.Ev

/- The evaluator, part 26: code. -/
namespace Go.Ev
section
variable {P : Program} {X : Fix}

theorem exists_least {p : Nat → Prop} : ∀ (n : Nat), p n → ∃ m, p m ∧ m ≤ n ∧ ∀ k, k < m → ¬ p k := by
  intro n
  induction n using Nat.strongRecOn with
  | _ n ih =>
    intro h
    by_cases q : ∃ k, k < n ∧ p k
    · obtain ⟨k, hk, hp⟩ := q
      obtain ⟨m, h1, h2, h3⟩ := ih k hk hp
      exact ⟨m, h1, by omega, h3⟩
    · exact ⟨n, h, Nat.le_refl n, fun k hk hp => q ⟨k, hk, hp⟩⟩

/-- A loop of so many rounds at most. -/
theorem wpIn_loop_n {F : Fence} {d : Nat} {c : Code} {Q : Exit → Act → World → Prop} {J : Nat → Act → World → Prop} (h0 : ∀ a w, ¬ J 0 a w) (hr : ∀ n a w, J (n + 1) a w → c.wpIn F d P (Exit.then (J n) Q) a w) {n : Nat} {a : Act} {w : World} (h : J n a w) :
    (Code.loop c).wpIn F d P Q a w := by
  classical
  let μ : Act → World → Nat := fun a w => Classical.epsilon fun m => J m a w ∧ ∀ k, k < m → ¬ J k a w
  have hμ : ∀ n a w, J n a w → J (μ a w) a w ∧ μ a w ≤ n := by
    intro n a w hj
    obtain ⟨m, h1, h2, h3⟩ := exists_least (p := fun m => J m a w) n hj
    have hs := Classical.epsilon_spec (p := fun m => J m a w ∧ ∀ k, k < m → ¬ J k a w) ⟨m, h1, h3⟩
    refine ⟨hs.1, ?_⟩
    apply Nat.le_of_not_lt
    intro hlt
    exact hs.2 n hlt hj
  refine wpIn_loop (fun a w => ∃ n, J n a w) μ ⟨n, h⟩ ?_
  rintro a w ⟨n, hj⟩
  obtain ⟨g1, _⟩ := hμ n a w hj
  cases hm : μ a w with
  | zero => rw [hm] at g1; exact absurd g1 (h0 a w)
  | succ k =>
    rw [hm] at g1
    refine wpIn_mono (hr k a w g1) ?_
    intro ex a' w' hq
    cases ex with
    | normal =>
      have hq : J k a' w' := hq
      exact ⟨⟨k, hq⟩, by have := (hμ k a' w' hq).2; show μ a' w' < k + 1; omega⟩
    | _ => exact hq

section
variable {F : Fence} {n : Nat} {b : Frame} {a : Act} {k : List Item} {cs : List Frame} {w : World} {Q : Exit → Act → World → Prop}
theorem stepR_scope {c : Code} : step P (lone (b.atR a (.code (.scope c) :: k)) cs w) = .next (lone (b.atR a (.code c :: .inScope c :: k)) cs w) :=
  step_lone_go (by simp [stepG, stepG.exec, Frame.atR])
theorem stepR_inScope {c : Code} : step P (lone (b.atR a (.inScope c :: k)) cs w) = .next (lone (b.atR a k) cs w) :=
  step_lone_go (by simp [stepG, stepG.exec, Frame.atR])
theorem wpIn_scope_straight {c : Code} (h : c.wpIn F n P (Exit.noGoto Q) a w) : (Code.scope c).wpIn F n P Q a w := by
  intro b k cs hro hb hr
  have h0 : (lone (b.atR a (.code (.scope c) :: k)) cs w).fenced P F := fenced_calm hb hr rfl
  obtain ⟨e, a₁, w₁, hq, harr⟩ := h b (.inScope c :: k) cs hro hb hr
  cases e with
  | normal => exact ⟨.normal, a₁, w₁, hq, .head h0 stepR_scope (StepsIn.trans harr (.one (fenced_calm hb hr rfl) stepR_inScope))⟩
  | exit id =>
    have hx : exitTo id (.inScope c :: k) = exitTo id k := by simp [exitTo]
    exact ⟨.exit id, a₁, w₁, hq, fun k' hk => .head h0 stepR_scope (harr.1 k' (by rw [hx]; exact hk)),
        fun hr' hk => let ⟨k₁, h1, h2⟩ := harr.2 hr' (by rw [hx]; exact hk); ⟨k₁, h1, .head h0 stepR_scope h2⟩⟩
  | goto l => exact hq.elim
  | ret => exact ⟨_, a₁, w₁, hq, .of_steps (.one h0 stepR_scope) harr⟩
  | panic ch => exact ⟨_, a₁, w₁, hq, .of_steps (.one h0 stepR_scope) harr⟩
  | outgrown => exact ⟨_, a₁, w₁, hq, .of_steps (.one h0 stepR_scope) harr⟩
end

/-- Functions with a body are entered. -/
def NoCount (P : Program) : Prop := ∀ (f : FuncId) fn, P.funcs[f]? = some fn → fn.body.isSome = true → (fn.name == "runtime.NumGoroutine") = false
theorem run_callFunc {f : FuncId} {fn : Func} {c : Code} {args : Array Value} {w : World} (hN : NoCount P) (hf : P.funcs[f]? = some fn) (hb : fn.body = some c) : (callFunc f args).run P w = .ok (.enter f args) w := by
  have := hN f fn hf (by rw [hb]; rfl)
  simp only [callFunc, Sem.run_bind, run_program, Result.andThen_ok, hf, this, hb]
  simp

/-- Regions that draw their order: as the evaluator needs them. -/
def DrawOk (P : Program) (X : Fix) (cH : PH) : Prop :=
  ∀ {PC : PanC} {ro : Option Nat} {n : Nat} {e : Env} {σ : St} {fr : Fr} {a : Act} {w : World} {K : Fr → St → Bool} {Q : Exit → Act → World → Prop} (id : Nat) (ops : Array Oper), (∀ o ∈ ops.toList, NDef ro o.op) → drawK P cH PC ops.toList fr σ K = true → WRel P X e σ w → FRel e fr a.tmps → DRel e σ.df a.defers →
    (∀ a w, Nxt P X e K a w → Q .normal a w) → (∀ c a w, PanAt P X e PC c a w → Q (.panic c) a w) → (Code.region id ops true).wpIn (wideR ro) n P Q a w

/-- The loop around, by the evaluator's name and by its place. -/
def ArRel (e : Env) : Option Nat → Option Nat → Prop
  | none, none => True
  | some b, some l => e.blk b = some l
  | _, _ => False
theorem ArRel.mono {e e' : Env} (h : Env.Le e e') : ∀ {ar ro : Option Nat}, ArRel e ar ro → ArRel e' ar ro
  | none, none, r => r
  | some _, some _, r => h.blk _ _ r
/-- No defer statement in a round's code. -/
def CDef (ro : Option Nat) (c : Code) : Prop := ro = none ∨ noDef c = true
theorem ndef_list : ∀ (l : List Oper), List.rec (motive := fun _ => Bool) true (fun (o : Oper) _ ih => match o.op with | .defer _ => false | _ => ih) l = true → ∀ o ∈ l, ∀ c, o.op ≠ .defer c
  | [], _, o, ho => by cases ho
  | x :: l, h, o, ho => by
    have h : (match x.op with | .defer _ => false | _ => List.rec (motive := fun _ => Bool) true (fun (o : Oper) _ ih => match o.op with | .defer _ => false | _ => ih) l) = true := h
    rcases List.mem_cons.1 ho with rfl | ho
    · intro c hc; rw [hc] at h; cases h
    · refine ndef_list l ?_ o ho
      split at h
      · cases h
      · exact h
theorem cdef_region {ro : Option Nat} {id : Nat} {ops : Array Oper} {d : Bool} (h : CDef ro (.region id ops d)) : ∀ o ∈ ops.toList, NDef ro o.op := by
  rcases h with h | h
  · exact fun _ _ => .inl h
  · exact fun o ho => .inr (ndef_list ops.toList h o ho)
theorem cdef_two {ro : Option Nat} {c x y : Code} (h : CDef ro c) (he : noDef c = ifB (noDef x) (noDef y) false) : CDef ro x ∧ CDef ro y := by
  rcases h with h | h
  · exact ⟨.inl h, .inl h⟩
  · rw [he] at h
    obtain ⟨h1, h2⟩ := ifB_iff.1 h
    exact ⟨.inr h1, .inr h2⟩

/-- A concrete block that no abstract one stands for is turned. -/
theorem WRel.loose {e : Env} {σ : St} {w w' : World} (h : WRel P X e σ w) {c : Nat} {o' : Obj} (hfree : ∀ b A, σ.get b = some A → e.blk b ≠ some c) (hF : ¬ X.F c) (hw : w'.heap = w.heap.setIfInBounds c o') (h1 : w'.os = w.os) (h2 : w'.output = w.output) (h3 : w'.tape = w.tape) : WRel P X e σ w' := by
  refine ⟨fun b A hb => ?_, h.inj, h.fresh, h.glob, fun d hd => ?_, h1.trans h.os, h2.trans h.out, h3.trans h.tape, h.res, h.opq⟩
  · obtain ⟨d, o, q1, q2, q3, q4⟩ := h.blk b A hb
    have hne : c ≠ d := by rintro rfl; exact hfree b A hb q1
    exact ⟨d, o, q1, by rw [hw, Array.getElem?_setIfInBounds_ne hne]; exact q2, q3, q4⟩
  · obtain ⟨q1, q2⟩ := h.old d hd
    have hne : c ≠ d := by rintro rfl; exact hF hd
    exact ⟨by rw [hw]; simpa using q1, by rw [hw, Array.getElem?_setIfInBounds_ne hne]; exact q2⟩

theorem enterF_none {σ : St} {K : Nat → St → Bool} : rangeFK.enterK none σ K = newBlkK .dfr σ fun db σ => K db ⟨σ.h, σ.nx, ⟨.yield db, [], []⟩ :: σ.df⟩ := rfl
theorem enterF_some {l : Nat} {σ : St} {K : Nat → St → Bool} : rangeFK.enterK (some l) σ K = hGetK l σ fun A => onLp A fun _ _ _ _ _ _ db => K db σ := rfl

theorem rangeF_ok {H : CallH} (hN : NoCount P) (hH : CallHOk P (X.on fun _ _ => false) H) {ar ro : Option Nat} {n : Nat} {g : Operand} {ps : Array Tmp} {as bd : Code} {e : Env} {σ : St} {fr : Fr} {a : Act} {w : World} {N : Fr → St → Bool} {Z : Option Nat → Fr → St → Bool} {Q : Exit → Act → World → Prop}
    (har : ArRel e ar ro) (h : rangeFK P H ar g ps.toList as bd fr σ N Z = true) (hw : WRel P X e σ w) (hf : FRel e fr a.tmps) (hd : DRel e σ.df a.defers)
    (hQ : ∀ a w, Nxt P X e N a w → Q .normal a w) (hE : ∀ id a w, Nxt P X e (Z (some id)) a w → Q (.exit id) a w) (hR : ∀ a w, Nxt P X e (Z none) a w → Q .ret a w) : (Code.rangeFunc g ps as bd).wpIn (wideR ro) n P Q a w := by
  obtain ⟨v, hv, h1⟩ := opd_ok hw.glob (hf.ook g) (show opd g fr _ = true from h)
  obtain ⟨fn, first, cap, rfl, h2⟩ := onFunc_iff.1 h1
  obtain ⟨f, rfl, h3⟩ := fnB_iff.1 h2
  obtain ⟨fd, hfd, h4⟩ := optK_iff.1 h3
  obtain ⟨fs, cs, r1, r2, g', hg', r3⟩ := hv
  cases hg'
  cases hbody : fd.body with
  | none => rw [hbody] at h4; cases h4
  | some cd =>
    rw [hbody, optB_some] at h4
    -- the two blocks
    have main : ∀ {db D : Nat} {mark : List Deferred} {e1 : Env} {σ1 : St} {w1 : World}, Env.Le e e1 → WRel P X e1 σ1 w1 → e1.blk db = some D → DRel e1 σ1.df (mark ++ a.defers) →
        (∀ fn, (Instr.enterLoop fn a.tmps ps as bd ro).run P w = .ok (w1.heap.size, mark) (w1.alloc (.loop { state := .ready, pending := none, fn, tmps := a.tmps, params := ps, assign := as, body := bd, defers := D }))) →
        newBlkK (.lp 0 none fr ps.toList as bd db) σ1 (fun lb σ2 => appK first (.func (.yield lb) [] [] :: cap) fun args => H.run f args σ2 fun _ σ3 => hGetK lb σ3 fun A => onLp A fun st pend _ _ _ _ _ => hSetK lb none σ3 fun σ4 => natB st (N fr σ4) fun s => natB s false fun _ => Z pend fr σ4) = true →
        (Code.rangeFunc g ps as bd).wpIn (wideR ro) n P Q a w := by
      intro db D mark e1 σ1 w1 hle1 hw1 hdb hdr hrun hk
      obtain ⟨hs, hk1⟩ := newBlkK_iff.1 hk
      rw [appK_eq] at hk1
      obtain ⟨f1, f2, _⟩ := hw1.fresh σ1.nx (Nat.le_refl _)
      have hle2 := Env.le_bind (e := e1) (c := w1.heap.size) (k := none) f1 f2
      refine wpIn_rangeFunc fun fnid _ => ?_
      have hB : BRel P (e1.bind σ1.nx w1.heap.size none) σ1.nx (.lp 0 none fr ps.toList as bd db) (.loop { state := .ready, pending := none, fn := fnid, tmps := a.tmps, params := ps, assign := as, body := bd, defers := D }) :=
        ⟨_, rfl, (hf.mono hle1).mono hle2, rfl, rfl, rfl, hle2.blk _ _ hdb, rfl, rfl⟩
      have hw2 := hw1.new (k := none) (o := .loop { state := .ready, pending := none, fn := fnid, tmps := a.tmps, params := ps, assign := as, body := bd, defers := D }) (w' := w1.alloc (.loop { state := .ready, pending := none, fn := fnid, tmps := a.tmps, params := ps, assign := as, body := bd, defers := D })) hs (nx_ge hw1) rfl hB rfl rfl rfl
      have hyv : VRel (e1.bind σ1.nx w1.heap.size none) (.func (.yield σ1.nx) [] []) (.func (.yield w1.heap.size) #[] #[]) := ⟨[], [], rfl, rfl, .yield w1.heap.size, ⟨_, Env.bind_blk .., rfl⟩, rfl⟩
      have hargs : LRel (e1.bind σ1.nx w1.heap.size none) (first ++ (.func (.yield σ1.nx) [] [] :: cap)) (fs ++ (.func (.yield w1.heap.size) #[] #[] :: cs)) :=
        ((r1.mono hle1).mono hle2).append (.cons hyv ((r2.mono hle1).mono hle2))
      have hcall := hH.run hk1 hargs (hw2.on _)
      rw [run_callFunc hN hfd hbody] at hcall
      have hev : a.eval g = .func (.func f) fs.toArray cs.toArray := r3
      have e1 : (fs.toArray ++ #[Value.func (Fn.yield w1.heap.size) #[] #[]]) ++ cs.toArray = (fs ++ (.func (.yield w1.heap.size) #[] #[] :: cs)).toArray := by simp
      refine ⟨w1.heap.size, mark, w1.alloc (.loop { state := .ready, pending := none, fn := fnid, tmps := a.tmps, params := ps, assign := as, body := bd, defers := D }), { target := .fn (.func f) cs.toArray, args := fs.toArray ++ #[.func (.yield w1.heap.size) #[] #[]] },
        w1.alloc (.loop { state := .ready, pending := none, fn := fnid, tmps := a.tmps, params := ps, assign := as, body := bd, defers := D }), f, (fs ++ (.func (.yield w1.heap.size) #[] #[] :: cs)).toArray,
        w1.alloc (.loop { state := .ready, pending := none, fn := fnid, tmps := a.tmps, params := ps, assign := as, body := bd, defers := D }), hrun fnid, ?_, fun _ _ => trivial, ?_, fun hh => absurd hh (by simp [wideR]), callsIn_wideR ?_⟩
      · simp only [resolve, hev, rangeCall]
        simp [Deferred.ofValue, Act.eval]
      · show (callFunc f ((fs.toArray ++ #[Value.func (Fn.yield w1.heap.size) #[] #[]]) ++ cs.toArray)).run P _ = _
        rw [e1]; exact run_callFunc hN hfd hbody
      refine Calls.mono hcall ?_
      · intro en w3 hr
        cases en with
        | panicked c => exact (Pan.none hr).elim
        | outgrown => exact hr.elim
        | returned y =>
          obtain ⟨v, e3, σ3, g1, g2, _, g4, g5⟩ := hr
          have g2 := g2.off
          obtain ⟨A, hA, g6⟩ := hGetK_iff.1 g4
          obtain ⟨st, pend, fr', ps', as', bd', db', rfl, g7⟩ := onLp_iff.1 g6
          obtain ⟨hs3, g8⟩ := hSetK_iff.1 g7
          obtain ⟨c, o, q1, q2, ⟨r, rfl, _, _, _, _, _, q7⟩, q8⟩ := g2.blk _ _ hA
          have hc : e3.blk σ1.nx = some w1.heap.size := g1.blk _ _ (Env.bind_blk ..)
          rw [hc] at q1; cases q1
          have hw4 := g2.drop hs3
          have hfree : ∀ b A, (σ3.put σ1.nx none).get b = some A → e3.blk b ≠ some w1.heap.size := by
            intro b A hb hbb
            rw [St.get_put hs3] at hb
            split at hb
            · cases hb
            · rename_i hne
              exact hne (g2.inj _ _ _ _ _ hA hb hc hbb)
          have hw5 : ∀ o', WRel P X e3 (σ3.put σ1.nx none) (w3.putObj w1.heap.size o') := fun o' => hw4.loose hfree q8 rfl rfl rfl rfl
          have hle3 : Env.Le e e3 := (hle1.trans hle2).trans g1
          have hdd : DRel e3 (σ3.put σ1.nx none).df (mark ++ a.defers) := by
            show DRel e3 σ3.df _
            rw [g5]; exact (hdr.mono hle2).mono g1
          match st, q7, g8 with
          | 0, ⟨s1, s2⟩, g8 =>
            refine ⟨r.pending, _, run_endLoop q2 (by rw [s1]; simp), ?_⟩
            rw [s2]
            exact hQ _ _ ⟨e3, fr, _, hle3, hw5 _, hf.mono hle3, hdd, g8⟩
          | 1, _, g8 => cases g8
          | 2, ⟨s1, s2⟩, g8 =>
            refine ⟨r.pending, _, run_endLoop q2 (by rw [s1]; simp), ?_⟩
            rw [s2]
            cases pend with
            | none => exact wpIn_ret (hR _ _ ⟨e3, fr, _, hle3, hw5 _, hf.mono hle3, hdd, g8⟩)
            | some id => exact wpIn_exit (hE id _ _ ⟨e3, fr, _, hle3, hw5 _, hf.mono hle3, hdd, g8⟩)
          | k + 3, q7, _ => exact q7.elim
    match ar, ro, har with
    | none, none, _ =>
      rw [enterF_none] at h4
      obtain ⟨hs0, h5⟩ := newBlkK_iff.1 h4
      obtain ⟨f1, f2, _⟩ := hw.fresh σ.nx (Nat.le_refl _)
      have hle := Env.le_bind (e := e) (c := w.heap.size) (k := none) f1 f2
      have hw0 := hw.new (k := none) (A := .dfr) (o := .deferred (some [])) (w' := w.alloc (.deferred (some []))) hs0 (nx_ge hw) rfl rfl rfl rfl rfl
      refine main (db := σ.nx) (D := w.heap.size) (mark := [{ target := .collected w.heap.size, args := #[] }]) hle (hw0.df _) (Env.bind_blk ..) ?_ (fun fn => ?_) h5
      · exact ⟨_, _, [], [], rfl, rfl, ⟨_, Env.bind_blk .., rfl⟩, hd.mono hle, rfl⟩
      · have := run_enterLoop_outer (P := P) (w := w) fn a.tmps ps as bd
        have hsz : (w.alloc (.deferred (some []))).heap.size = w.heap.size + 1 := World.size_alloc _ _
        rw [this, hsz]
    | some b, some l, har =>
      rw [enterF_some] at h4
      obtain ⟨A, hA, h5⟩ := hGetK_iff.1 h4
      obtain ⟨st, pend, fr', ps', as', bd', db', rfl, h6⟩ := onLp_iff.1 h5
      obtain ⟨c, o, q1, q2, ⟨r, rfl, _, _, _, _, q6, q7⟩, q8⟩ := hw.blk _ _ hA
      have har : e.blk b = some l := har
      rw [har] at q1; cases q1
      refine main (db := db') (D := r.defers) (mark := []) (Env.Le.refl e) hw q6 hd (fun fn => ?_) h6
      exact run_enterLoop_inner q2 fn a.tmps ps as bd

theorem codeK_ok {cH : PH} {PC : PanC} (hN : NoCount P) (hH : ∀ p, CallHOk P (X.on p) (cH p)) (hD : DrawOk P X cH) (m : Nat) : ∀ (c : Code) {ar ro : Option Nat} {n : Nat} {e : Env} {σ : St} {fr : Fr} {a : Act} {w : World} {N : Fr → St → Bool} {Z : Option Nat → Fr → St → Bool} {Q : Exit → Act → World → Prop},
    ArRel e ar ro → CDef ro c → codeK P cH PC m ar c fr σ N Z = true → WRel P X e σ w → FRel e fr a.tmps → DRel e σ.df a.defers →
    (∀ a w, Nxt P X e N a w → Q .normal a w) → (∀ id a w, Nxt P X e (Z (some id)) a w → Q (.exit id) a w) → (∀ a w, Nxt P X e (Z none) a w → Q .ret a w) → (∀ c a w, PanAt P X e PC c a w → Q (.panic c) a w) → c.wpIn (wideR ro) n P Q a w := by
  intro c
  induction c with
  | skip => exact fun {ar ro n e σ fr a w N Z Q} har hc h hw hf hd hN _ _ _ => wpIn_skip (hN a w ⟨e, fr, σ, Env.Le.refl e, hw, hf, hd, h⟩)
  | region id ops draw =>
    intro ar ro n e σ fr a w N Z Q har hc h hw hf hd hN _ _ hP
    cases draw with
    | true => exact hD id ops (cdef_region hc) h hw hf hd hN hP
    | false =>
      have h0 : opsK P cH PC ops.toList ops.toList fr σ N = true := h
      have := opsK_ok (n := n) hH (cdef_region hc) ops.toList [] rfl h0 hw hf hd hN hP
      refine wpIn_region ?_
      rw [List.range_eq_range']
      simpa using this
  | seq x y ihx ihy =>
    intro ar ro n e σ fr a w N Z Q har hc h hw hf hd hN hE hR hP
    obtain ⟨hc1, hc2⟩ := cdef_two hc (x := x) (y := y) rfl
    refine wpIn_seq ?_
    refine ihx (N := fun fr σ => codeK P cH PC m ar y fr σ N Z) (Z := Z) har hc1 h hw hf hd ?_ ?_ ?_ (fun c a w hn => hP c a w hn)
    · rintro a' w' ⟨e', fr', σ', h1, h2, h3, h4, h5⟩
      exact ihy (har.mono h1) hc2 h5 h2 h3 h4 (fun a w hn => hN a w (hn.up h1)) (fun id a w hn => hE id a w (hn.up h1)) (fun a w hn => hR a w (hn.up h1)) (fun c a w hn => hP c a w (hn.up h1))
    · exact fun id a w hn => hE id a w hn
    · exact fun a w hn => hR a w hn
  | cond c x y ihx ihy =>
    intro ar ro n e σ fr a w N Z Q har hc h hw hf hd hN hE hR hP
    obtain ⟨hc1, hc2⟩ := cdef_two hc (x := x) (y := y) rfl
    obtain ⟨v, hv, h1⟩ := opd_ok hw.glob (hf.ook c) (show opd c fr _ = true from h)
    obtain ⟨b, rfl, h2⟩ := onBool_iff.1 h1
    have hb : a.eval c = .bool b := hv
    cases b with
    | true => rw [ifB_true] at h2; exact wpIn_cond_true hb (ihx har hc1 h2 hw hf hd hN hE hR hP)
    | false => rw [ifB_false] at h2; exact wpIn_cond_false hb (ihy har hc2 h2 hw hf hd hN hE hR hP)
  | block id x ih =>
    intro ar ro n e σ fr a w N Z Q har hc h hw hf hd hN hE hR hP
    refine wpIn_block ?_
    refine ih (N := N) (Z := fun e fr σ => optB e (Z none fr σ) fun j => ifB (Nat.beq j id) (N fr σ) (Z (some j) fr σ)) har hc h hw hf hd (fun a w hn => hN a w hn) ?_ (fun a w hn => hR a w hn) (fun c a w hn => hP c a w hn)
    rintro j a' w' ⟨e', fr', σ', h1, h2, h3, h4, h5⟩
    have h5 : ifB (Nat.beq j id) (N fr' σ') (Z (some j) fr' σ') = true := h5
    cases q : Nat.beq j id with
    | true =>
      rw [q, ifB_true] at h5
      simp only [Exit.inBlock, beq_true q, if_true]
      exact hN _ _ ⟨e', fr', σ', h1, h2, h3, h4, h5⟩
    | false =>
      rw [q, ifB_false] at h5
      simp only [Exit.inBlock, beq_false q, if_false]
      exact hE j _ _ ⟨e', fr', σ', h1, h2, h3, h4, h5⟩
  | loop x ih =>
    intro ar ro n e σ fr a w N Z Q har hc h hw hf hd hN hE hR hP
    have h0 : loopK m (codeK P cH PC m ar x) fr σ Z = true := h
    refine wpIn_loop_n (J := fun k a w => Nxt P X e (fun fr σ => loopK k (codeK P cH PC m ar x) fr σ Z) a w) ?_ ?_ (n := m) ⟨e, fr, σ, Env.Le.refl e, hw, hf, hd, h0⟩
    · rintro a w ⟨_, _, _, _, _, _, _, h5⟩; cases h5
    · rintro k a' w' ⟨e', fr', σ', h1, h2, h3, h4, h5⟩
      refine ih (N := fun fr σ => loopK k (codeK P cH PC m ar x) fr σ Z) (Z := Z) (har.mono h1) hc h5 h2 h3 h4 (fun a w hn => hn.up h1) (fun id a w hn => hE id a w (hn.up h1)) (fun a w hn => hR a w (hn.up h1)) (fun c a w hn => hP c a w (hn.up h1))
  | rangeFunc f ps x y _ _ => intro ar ro n e σ fr a w N Z Q har hc h hw hf hd hQ hE hR _; exact rangeF_ok hN (hH _) har h hw hf hd hQ hE hR
  | exit id => exact fun {ar ro n e σ fr a w N Z Q} har hc h hw hf hd _ hE _ _ => wpIn_exit (hE id a w ⟨e, fr, σ, Env.Le.refl e, hw, hf, hd, h⟩)
  | scope x ih =>
    intro ar ro n e σ fr a w N Z Q har hc h hw hf hd hN hE hR hP
    exact wpIn_scope_straight (ih (N := N) (Z := Z) har hc h hw hf hd (fun a w hn => hN a w hn) (fun id a w hn => hE id a w hn) (fun a w hn => hR a w hn) (fun c a w hn => hP c a w hn))
  | label l => exact fun {ar ro n e σ fr a w N Z Q} har hc h hw hf hd hN _ _ _ => wpIn_label (hN a w ⟨e, fr, σ, Env.Le.refl e, hw, hf, hd, h⟩)
  | goto l => intro ar ro n e σ fr a w N Z Q har hc h; exact nomatch (show false = true from h)
  | ret => exact fun {ar ro n e σ fr a w N Z Q} har hc h hw hf hd _ _ hR _ => wpIn_ret (hR a w ⟨e, fr, σ, Env.Le.refl e, hw, hf, hd, h⟩)
  | refuse s => intro ar ro n e σ fr a w N Z Q har hc h; exact nomatch (show false = true from h)
end
end Go.Ev

/- The evaluator, part 27: functions. -/
namespace Go.Ev

theorem ofFn_get {β : Type} (f : Nat → β) (i : Nat) : (N16.ofFn f).get (dg i) = if i < 16 then some (f i) else none := by
  match i with
  | 0 | 1 | 2 | 3 | 4 | 5 | 6 | 7 | 8 | 9 | 10 | 11 | 12 | 13 | 14 | 15 => rfl
  | n + 16 =>
    rw [if_neg (by omega)]
    rfl

theorem skel_get {N t : Nat} {v : AV} (h : (TL.get 2 t (skel N)).join = some v) : v = .undef ∧ t < N := by
  have h1 : (((N16.ofFn fun i => N16.ofFn fun j => slot N (Nat.add (Nat.mul 16 i) j)).get (dg (t / 16))).bind fun s => (s.get (dg (t % 16))).bind fun x => some x).join = some v := by
    have e0 : kd 1 t = dg (t / 16) := rfl
    have e1 : kd 0 (kr 1 t) = dg (t % 16) := by show dg (t % 16 ^ 1 / 16 ^ 0) = _; simp
    have : TL.get 2 t (skel N) = ((N16.ofFn fun i => N16.ofFn fun j => slot N (Nat.add (Nat.mul 16 i) j)).get (kd 1 t)).bind fun s => (s.get (kd 0 (kr 1 t))).bind fun x => some x := rfl
    rw [this, e0, e1] at h
    exact h
  rw [ofFn_get] at h1
  by_cases q : t / 16 < 16
  · rw [if_pos q] at h1
    simp only [Option.bind_some] at h1
    rw [ofFn_get, if_pos (Nat.mod_lt _ (by decide))] at h1
    simp only [Option.bind_some, Option.join_some] at h1
    have e2 : Nat.add (Nat.mul 16 (t / 16)) (t % 16) = t := Nat.div_add_mod t 16
    rw [e2] at h1
    unfold slot at h1
    cases hb : Nat.ble (Nat.succ t) N with
    | true => rw [hb] at h1; exact ⟨(Option.some.inj h1).symm, Nat.le_of_ble_eq_true hb⟩
    | false => rw [hb] at h1; cases h1
  · rw [if_neg q] at h1; cases h1

section
variable {P : Program} {X : Fix}

theorem argsK_ok {e : Env} {T : Array Value} {K : Fr → Bool} : ∀ (l : List AV) (i : Nat) (fr : Fr), argsK l i fr K = true →
    (∀ t v, (TL.get 2 t fr).join = some v → ∃ x, T[t]? = some x ∧ (t < i ∨ i + l.length ≤ t → VRel e v x)) → (∀ (j : Nat) v, l[j]? = some v → ∃ x, T[i + j]? = some x ∧ VRel e v x) → ∃ fr', FRel e fr' T ∧ K fr' = true
  | [], i, fr, h, h1, _ => ⟨fr, fun t v hv => by
      obtain ⟨x, hx, hr⟩ := h1 t v hv
      exact ⟨x, hx, hr (by simp only [List.length_nil]; omega)⟩, h⟩
  | u :: l, i, fr, h, h1, h2 => by
    obtain ⟨hs, h3⟩ := frSetK_iff.1 (show frSetK i u fr (fun fr' => argsK l (Nat.succ i) fr' K) = true from h)
    refine argsK_ok l (i + 1) _ h3 ?_ ?_
    · intro t v hv
      rw [fr_get_set hs] at hv
      by_cases q : i = t
      · subst q
        rw [if_pos rfl] at hv; cases hv
        obtain ⟨x, hx, hr⟩ := h2 0 u rfl
        exact ⟨x, by simpa using hx, fun _ => hr⟩
      · rw [if_neg q] at hv
        obtain ⟨x, hx, hr⟩ := h1 t v hv
        exact ⟨x, hx, fun hh => hr (by simp only [List.length_cons]; omega)⟩
    · intro j v hv
      obtain ⟨x, hx, hr⟩ := h2 (j + 1) v (by simpa using hv)
      exact ⟨x, by rw [show i + 1 + j = i + (j + 1) by omega]; exact hx, hr⟩

/-- A body, entered. -/
theorem bodyK_ok {cH : PH} {PC : PanC} (hN : NoCount P) (hH : ∀ p, CallHOk P (X.on p) (cH p)) (hD : DrawOk P X cH) {m : Nat} {fn : Func} {args : List AV} {xs : List Value} {e : Env} {σ : St} {w : World} {E : Fr → St → Bool} {Q : Exit → Act → World → Prop}
    (h : bodyK P cH PC m fn args σ E = true) (hl : LRel e args xs) (hw : WRel P X e σ w) (hQ : ∀ a w, Nxt P X e E a w → Q .normal a w ∧ Q .ret a w) (hP : ∀ c a w, PanAt P X e PC c a w → Q (.panic c) a w) :
    ∃ c, fn.body = some c ∧ c.wpIn Fence.wide 0 P Q { tmps := xs.toArray ++ Array.replicate (fn.ntmps - xs.toArray.size) undef, defers := [] } w := by
  unfold bodyK at h
  cases hb : fn.body with
  | none => rw [hb] at h; cases h
  | some c =>
    rw [hb, optB_some] at h
    obtain ⟨h1, h2⟩ := ifB_iff.1 h
    obtain ⟨_, h3⟩ := ifB_iff.1 h2
    have hle : args.length ≤ fn.ntmps := by rw [← lenL_eq]; exact Nat.le_of_ble_eq_true h1
    have hlen := hl.length
    obtain ⟨fr, hf, hk⟩ := argsK_ok (e := e) (T := xs.toArray ++ Array.replicate (fn.ntmps - xs.toArray.size) undef) args 0 _ h3 (by
      intro t v hv
      obtain ⟨rfl, ht⟩ := skel_get hv
      by_cases q : t < xs.length
      · exact ⟨xs[t], by rw [Array.getElem?_append_left (by simpa using q)]; simp [q], fun hh => by omega⟩
      · refine ⟨undef, ?_, fun _ => ⟨[], rfl, rfl⟩⟩
        rw [Array.getElem?_append_right (by simpa using q)]
        simp only [List.size_toArray]
        rw [Array.getElem?_replicate, if_pos (by omega)]) (by
      intro j v hv
      obtain ⟨x, hx, hr⟩ := hl.get hv
      have hj := (List.getElem?_eq_some_iff.1 hx).1
      exact ⟨x, by rw [Nat.zero_add, Array.getElem?_append_left (by simpa using hj)]; simpa using hx, hr⟩)
    refine ⟨c, rfl, codeK_ok hN hH hD m c (ar := none) (ro := none) (n := 0) trivial (.inl rfl) (N := E) (Z := fun e fr σ => optB e (E fr σ) fun _ => false) hk (hw.df []) hf rfl (fun a w hn => (hQ a w hn).1) ?_ (fun a w hn => (hQ a w hn).2) hP⟩
    rintro id a w ⟨_, _, _, _, _, _, _, h5⟩
    cases h5
end
end Go.Ev

/- The evaluator, part 28: results, deferred calls, calls by number. -/
namespace Go.Ev
section
variable {P : Program} {X : Fix} {e : Env} {σ : St} {w : World}

/-- One result, as the model reads it. -/
def resSem (tmps : Array Value) : ResultVar → Sem Value
  | .tmp t => pure (tmps.getD t undef)
  | .cell a t => do loadVar t (← asAddr (tmps.getD a undef))
theorem resultK_ok {r : ResultVar} {fr : Fr} {tmps : Array Value} {K : AV → Bool} (h : resultK P r fr σ K = true) (hf : FRel e fr tmps) (hw : WRel P X e σ w) : ∃ v y, K v = true ∧ VRel e v y ∧ (resSem tmps r).run P w = .ok y w := by
  cases r with
  | tmp t =>
    obtain ⟨v, h1, h2⟩ := frGetK_iff.1 (show frGetK t fr K = true from h)
    obtain ⟨x, hx, hr⟩ := hf t v h1
    have : tmps.getD t undef = x := by simp [Array.getD_eq_getD_getElem?, hx]
    exact ⟨v, x, h2, hr, by simp [resSem, this]⟩
  | cell a t =>
    obtain ⟨v, h1, h2⟩ := frGetK_iff.1 (show frGetK a fr (fun v => loadK P t v σ fun x _ => K x) = true from h)
    obtain ⟨x, hx, hr⟩ := hf a v h1
    have hg : tmps.getD a undef = x := by simp [Array.getD_eq_getD_getElem?, hx]
    obtain ⟨u, y, h3, h4, _, h5⟩ := loadK_ok h2 hr hw
    obtain ⟨b, o, rfl, _⟩ := onPtr_iff.1 (show onPtr v _ = true from h2)
    obtain ⟨c, hc, rfl⟩ := hr
    exact ⟨u, y, h3, h4, by simp [resSem, hg, asAddr, h5 _ rfl]⟩
theorem resultsK_ok {fr : Fr} {tmps : Array Value} (hf : FRel e fr tmps) (hw : WRel P X e σ w) : ∀ {l : List ResultVar} {K : List AV → Bool}, resultsK P l fr σ K = true →
    ∃ vs ys, K vs = true ∧ LRel e vs ys ∧ (l.mapM (resSem tmps)).run P w = .ok ys w
  | [], K, h => ⟨[], [], h, rfl, rfl⟩
  | r :: l, K, h => by
    obtain ⟨v, y, h1, h2, h3⟩ := resultK_ok (show resultK P r fr σ (fun v => resultsK P l fr σ fun l => K (v :: l)) = true from h) hf hw
    obtain ⟨vs, ys, h4, h5, h6⟩ := resultsK_ok hf hw h1
    exact ⟨v :: vs, y :: ys, h4, .cons h2 h5, by simp [List.mapM_cons, h3, h6]⟩
theorem results_run {fn : Func} {tmps : Array Value} {ys : List Value} (h3 : (fn.results.toList.mapM (resSem tmps)).run P w = .ok ys w) :
    (results fn tmps).run P w = .ok (if h : ys.toArray.size = 1 then ys.toArray[0] else .tuple ys.toArray) w := by
  have e1 : results fn tmps = (do
    let vs ← fn.results.mapM (resSem tmps)
    pure (if h : vs.size = 1 then vs[0] else .tuple vs)) := by
      unfold results
      congr 1
  rw [e1, Array.mapM_eq_mapM_toList]
  simp [h3]
theorem results_ok {fn : Func} {fr : Fr} {tmps : Array Value} {K : AV → Bool} (h : resultsK P fn.results.toList fr σ (fun l => oneOrAll l K) = true) (hf : FRel e fr tmps) (hw : WRel P X e σ w) :
    ∃ v y, K v = true ∧ VRel e v y ∧ (results fn tmps).run P w = .ok y w := by
  obtain ⟨vs, ys, h1, h2, h3⟩ := resultsK_ok hf hw h
  have hr : (results fn tmps).run P w = .ok (if h : ys.toArray.size = 1 then ys.toArray[0] else .tuple ys.toArray) w := by
    have e1 : results fn tmps = (do
      let vs ← fn.results.mapM (resSem tmps)
      pure (if h : vs.size = 1 then vs[0] else .tuple vs)) := by
        unfold results
        congr 1
    rw [e1, Array.mapM_eq_mapM_toList]
    simp [h3]
  rw [hr]
  match vs, ys, h1, h2 with
  | [], ys, h1, h2 => cases h2; exact ⟨.tuple [], .tuple #[], h1, ⟨[], rfl, rfl⟩, rfl⟩
  | [v], _, h1, ⟨y, _, r1, r2, r3⟩ => cases r2; cases r3; exact ⟨v, y, h1, r1, rfl⟩
  | v :: u :: vs, ys, h1, h2 =>
    have hl := h2.length
    refine ⟨.tuple (v :: u :: vs), .tuple ys.toArray, h1, ⟨ys, h2, rfl⟩, ?_⟩
    rw [dif_neg (by simp only [List.size_toArray]; simp only [List.length_cons] at hl; omega)]
end
end Go.Ev

/- The evaluator, part 29: deferred calls, calls by number. -/
namespace Go.Ev
section
variable {P : Program} {X : Fix}

def IOk (P : Program) (X : Fix) (I : ConH) : Prop :=
  ∀ {f : FuncId} {g : List AV → St → (AV → St → Bool) → Bool → Bool}, I f = some g → ∀ {e : Env} {σ : St} {w : World} {args : List AV} {xs : List Value} {K : AV → St → Bool} {d : Bool}, g args σ K d = true → LRel e args xs → WRel P X e σ w → d = true ∨ OpOk P X e σ K ((callFunc f xs.toArray).run P w)
/-- What a deferred call gives. -/
def DOk (P : Program) (X : Fix) (e : Env) (σ : St) (K : St → Bool) : Ending → FrameMode → World → Prop
  | .returned _, u', w' => settle u' = .returning ∧ ∃ e' σ', Env.Le e e' ∧ WRel P X e' σ' w' ∧ K σ' = true ∧ σ'.df = σ.df
  | _, _, _ => False
def JOk (P : Program) (X : Fix) (J : DefH) : Prop :=
  ∀ {f : FuncId} {g : List AV → St → (St → Bool) → Bool}, J f = some g → ∀ {e : Env} {σ : St} {w : World} {args : List AV} {xs : List Value} {K : St → Bool}, g args σ K = true → LRel e args xs → WRel P X e σ w →
    (callFunc f xs.toArray).run P w = .ok (.enter f xs.toArray) w ∧ CallsDIn Fence.wide 0 P f xs.toArray .returning w (DOk P X e σ K)

/-- What a deferred call that recovers gives. -/
def ROk (P : Program) (X : Fix) (R : RecH) : Prop :=
  ∀ {f : FuncId} {g : List AV → AV → St → (St → Bool) → Bool}, R f = some g → ∀ {e : Env} {σ : St} {w : World} {args : List AV} {xs : List Value} {v : AV} {x : Value} {K : St → Bool}, g args v σ K = true → LRel e args xs → VRel e v x → WRel P X e σ w →
    (callFunc f xs.toArray).run P w = .ok (.enter f xs.toArray) w ∧ CallsDIn Fence.wide 0 P f xs.toArray (.panicking [{ v := x, recovered := false }]) w (DOk P X e σ K)

theorem deferredK_ok {cH : PH} {J : DefH} (hN : NoCount P) (hH : ∀ p, CallHOk P (X.on p) (cH p)) (hD : DrawOk P X cH) (hJ : JOk P X J) {m : Nat} {d : ADef} {cap args : List Value} {e : Env} {σ : St} {w : World} {K : St → Bool}
    (h : deferredK P J cH m d σ K = true) (hc : LRel e d.cap cap) (ha : LRel e d.args args) (hw : WRel P X e σ w) (hy : ∀ b, d.fn ≠ .yield b) :
    (∃ f, d.fn = .func f) ∧ ∃ f xs, (invoke (.fn d.fn cap.toArray) args.toArray).run P w = .ok (.enter f xs) w ∧ CallsDIn Fence.wide 0 P f xs .returning w (DOk P X e σ K) := by
  obtain ⟨dfn, dcap, dargs⟩ := d
  cases dfn with
  | func f =>
    have h0 : appK dargs dcap (fun args => optB (J f) (optK (fun fn => bodyK P cH (fun _ _ _ => false) m fn args σ fun fr τ => consB τ.df (resultsK P fn.results.toList fr τ fun _ => K ⟨τ.h, τ.nx, σ.df⟩) fun _ _ => false) P.funcs[f]?) fun g => g args σ K) = true := h
    rw [appK_eq] at h0
    have hl := ha.append hc
    have e1 : args.toArray ++ cap.toArray = (args ++ cap).toArray := by simp
    have hi : (invoke (.fn (.func f) cap.toArray) args.toArray).run P w = (callFunc f (args ++ cap).toArray).run P w := by
      rw [← e1]; rfl
    refine ⟨⟨f, rfl⟩, ?_⟩
    show ∃ g xs, (invoke (.fn (.func f) cap.toArray) args.toArray).run P w = .ok (.enter g xs) w ∧ _
    rw [hi]
    cases hj : J f with
    | some g =>
      rw [hj, optB_some] at h0
      obtain ⟨h1, h2⟩ := hJ hj h0 hl hw
      exact ⟨f, _, h1, h2⟩
    | none =>
      rw [hj, optB_none] at h0
      obtain ⟨fn, hf, h1⟩ := optK_iff.1 h0
      obtain ⟨c, hb, hwp⟩ := bodyK_ok hN hH hD (Q := bodyPost P fn fun en w' => DOk P X e σ K en .returning w') h1 hl hw (by
        rintro a w' ⟨e', fr, τ, g1, g2, g3, g4, g5⟩
        have g5 : consB τ.df (resultsK P fn.results.toList fr τ fun _ => K ⟨τ.h, τ.nx, σ.df⟩) (fun _ _ => false) = true := g5
        have key : a.defers = [] ∧ ∃ v, (results fn a.tmps).run P w' = .ok v w' ∧ DOk P X e σ K (.returned v) .returning w' := by
          cases hdf : τ.df with
          | cons x r => rw [hdf] at g5; cases g5
          | nil =>
            rw [hdf] at g5 g4
            obtain ⟨vs, ys, k1, k2, k3⟩ := resultsK_ok g3 g2 (show resultsK P fn.results.toList fr τ (fun _ => K ⟨τ.h, τ.nx, σ.df⟩) = true from g5)
            exact ⟨g4, _, results_run k3, rfl, e', ⟨τ.h, τ.nx, σ.df⟩, g1, g2.df _, k1, rfl⟩
        exact ⟨key, key⟩) (by rintro c a w' ⟨_, _, _, _, _, _, _, _, _, _, _, h⟩; cases h)
      exact ⟨f, _, run_callFunc hN hf hb, (callsDIn_of_wp (u := .returning) hf hb trivial hwp).mono (by rintro en u' w' ⟨rfl, hr⟩; exact hr)⟩
  | yield b => exact absurd rfl (hy b)
  | _ => exact nomatch (show false = true from h)
end
end Go.Ev

/- The evaluator, part 30: calls by number. -/
namespace Go.Ev
section
variable {P : Program} {X : Fix}

theorem defersK_ok {cH : PH} {J : DefH} (hN : NoCount P) (hH : ∀ p, CallHOk P (X.on p) (cH p)) (hD : DrawOk P X cH) (hJ : JOk P X J) {m : Nat} {fn : Func} {tmps : Array Value} {R : Ending → World → Prop} : ∀ (l : List ADef) (ds : List Deferred) {e : Env} {σ : St} {w : World} {K : St → Bool},
    defersK P J cH m l σ K = true → DRel e l ds → WRel P X e σ w → (∀ e' σ' w', Env.Le e e' → WRel P X e' σ' w' → K σ' = true → ∃ v, (results fn tmps).run P w' = .ok v w' ∧ R (.returned v) w') → LeavesInM Fence.wide 0 P fn tmps R ds .returning w
  | [], ds, e, σ, w, K, h, hd, hw, hR => by
    cases hd
    exact hR e σ w (Env.Le.refl e) hw h
  | d :: l, ds, e, σ, w, K, h, hd, hw, hR => by
    obtain ⟨d', ds', cap, args, r1, r2, r3, r4, rfl⟩ := hd
    have h0 : deferredK P J cH m d σ (fun σ => defersK P J cH m l σ K) = true := h
    refine ⟨by simp, ?_⟩
    by_cases hy : ∃ b, d.fn = .yield b
    · left
      obtain ⟨b, hb⟩ := hy
      obtain ⟨dfn, dcap, dargs⟩ := d
      cases hb
      obtain ⟨c, hc, rfl⟩ := r3
      obtain ⟨A, hA, h1⟩ := hGetK_iff.1 (show hGetK b σ (fun A => onDfr A (hSetK b none σ fun σ => defersK P J cH m l σ K)) = true from h0)
      obtain ⟨rfl, h2⟩ := onDfr_iff.1 h1
      obtain ⟨hs, h3⟩ := hSetK_iff.1 h2
      obtain ⟨c', o, q1, q2, q3, q4⟩ := hw.blk _ _ hA
      rw [hc] at q1; cases q1
      have q3 : o = .deferred (some []) := q3
      subst q3
      have hfree : ∀ j A, (σ.put b none).get j = some A → e.blk j ≠ some c := by
        intro j A hj hjc
        rw [St.get_put hs] at hj
        split at hj
        · cases hj
        · rename_i hne
          exact hne (hw.inj _ _ _ _ _ hA hj hc hjc)
      refine ⟨c, _, rfl, run_takeDeferred q2, ?_⟩
      exact defersK_ok hN hH hD hJ l ds' h3 r4 ((hw.drop hs).loose hfree q4 rfl rfl rfl rfl) hR
    · right
      have hy' : ∀ b, d.fn ≠ .yield b := fun b hb => hy ⟨b, hb⟩
      obtain ⟨⟨f0, hf0⟩, f, xs, h1, h2⟩ := deferredK_ok hN hH hD hJ h0 r1 r2 hw hy'
      rw [hf0] at r3 h1
      have r3 : d' = ⟨.fn (.func f0) cap.toArray, args.toArray⟩ := r3
      subst r3
      refine ⟨fun hh => absurd hh (by simp [Fence.wide]), .func f0, cap.toArray, f, xs, rfl, h1, fun _ _ => trivial, h2.mono ?_⟩
      intro en u' w' hr
      cases en with
      | returned v =>
        obtain ⟨hs, e', σ', g1, g2, g3, _⟩ := hr
        show LeavesInM Fence.wide 0 P fn tmps R ds' (settle u') w'
        rw [hs]
        exact defersK_ok hN hH hD hJ l ds' g3 (r4.mono g1) g2 (fun e2 σ2 w2 k1 k2 k3 => hR e2 σ2 w2 (g1.trans k1) k2 k3)
      | panicked c => exact hr.elim
      | outgrown => exact hr.elim

theorem recoverK_ok {R : RecH} (hR : ROk P X R) {d : ADef} {v : AV} {x : Value} {cap args : List Value} {e : Env} {σ : St} {w : World} {K : St → Bool} (h : recoverK R d v σ K = true) (hc : LRel e d.cap cap) (ha : LRel e d.args args) (hv : VRel e v x) (hw : WRel P X e σ w) :
    ∃ f0, d.fn = .func f0 ∧ ∃ f xs, (invoke (.fn (.func f0) cap.toArray) args.toArray).run P w = .ok (.enter f xs) w ∧ CallsDIn Fence.wide 0 P f xs (.panicking [{ v := x, recovered := false }]) w (DOk P X e σ K) := by
  obtain ⟨dfn, dcap, dargs⟩ := d
  obtain ⟨f, rfl, h1⟩ := fnB_iff.1 (show fnB dfn false (fun f => appK dargs dcap fun args => optK (fun g => g args v σ K) (R f)) = true from h)
  rw [appK_eq] at h1
  obtain ⟨g, hg, h2⟩ := optK_iff.1 h1
  have hl := ha.append hc
  have e1 : args.toArray ++ cap.toArray = (args ++ cap).toArray := by simp
  have hi : (invoke (.fn (.func f) cap.toArray) args.toArray).run P w = (callFunc f (args ++ cap).toArray).run P w := by
    rw [← e1]; rfl
  obtain ⟨h3, h4⟩ := hR hg h2 hl hv hw
  exact ⟨f, rfl, f, _, hi.trans h3, h4⟩

theorem enterK_ok {cH : PH} {J : DefH} {R : RecH} (hN : NoCount P) (hH : ∀ p, CallHOk P (X.on p) (cH p)) (hD : DrawOk P X cH) (hJ : JOk P X J) (hRec : ROk P X R) {m : Nat} {f : FuncId} {args : List AV} {xs : List Value} {e : Env} {σ : St} {w : World} {K : AV → St → Bool}
    (h : enterK P J R cH X.pan m f args σ K = true) (hl : LRel e args xs) (hw : WRel P X e σ w) : OpOk P X e σ K ((callFunc f xs.toArray).run P w) := by
  obtain ⟨fn, hf, h1⟩ := optK_iff.1 h
  obtain ⟨c, hb, hwp⟩ := bodyK_ok hN hH hD (Q := bodyPostM Fence.wide 0 P fn (Ret P X e σ K)) h1 hl hw (by
    rintro a w' ⟨e', fr, τ, g1, g2, g3, g4, g5⟩
    have key : LeavesInM Fence.wide 0 P fn a.tmps (Ret P X e σ K) a.defers .returning w' := by
      refine defersK_ok hN hH hD hJ τ.df a.defers g5 g4 g2 ?_
      intro e2 σ2 w2 k1 k2 k3
      obtain ⟨v, y, q1, q2, q3⟩ := results_ok (K := fun v => K v ⟨σ2.h, σ2.nx, σ.df⟩) k3 (g3.mono k1) k2
      exact ⟨y, q3, v, e2, ⟨σ2.h, σ2.nx, σ.df⟩, g1.trans k1, k2.df _, q2, q1, rfl⟩
    exact ⟨key, key⟩) (by
    rintro c a w' ⟨v, x, ofr, e', τ, g1, g2, g3, rfl, g5, g6, g7⟩
    show LeavesInM Fence.wide 0 P fn a.tmps (Ret P X e σ K) a.defers (.panicking [{ v := x, recovered := false }]) w'
    unfold thrownK at g7
    cases hdf : τ.df with
    | nil =>
      rw [hdf] at g6 g7
      have g6 : a.defers = [] := g6
      rw [g6]
      exact ⟨v, x, e', ⟨τ.h, τ.nx, σ.df⟩, g1, g2.df _, g3, rfl, g7, rfl⟩
    | cons d r =>
      rw [hdf] at g6 g7
      cases r with
      | cons _ _ => exact nomatch (show false = true from g7)
      | nil =>
        obtain ⟨fr, rfl, h2⟩ := optK_iff.1 (show optK (fun fr => recoverK R d v τ fun τ => resultsK P fn.results.toList fr τ fun l => oneOrAll l fun v => K v ⟨τ.h, τ.nx, σ.df⟩) ofr = true from g7)
        obtain ⟨d', ds', cap, dargs, r1, r2, r3, r4, r5⟩ := g6
        cases r4
        obtain ⟨f0, hf0, f', xs', h3, h4⟩ := recoverK_ok hRec h2 r1 r2 g3 g2
        rw [hf0] at r3
        have r3 : d' = ⟨.fn (.func f0) cap.toArray, dargs.toArray⟩ := r3
        subst r3
        rw [r5]
        refine ⟨by simp, .inr ⟨fun hh => absurd hh (by simp [Fence.wide]), .func f0, cap.toArray, f', xs', rfl, h3, fun _ _ => trivial, h4.mono ?_⟩⟩
        intro en u' w2 hr
        cases en with
        | returned y0 =>
          obtain ⟨hs, e2, σ2, k1, k2, k3, _⟩ := hr
          show LeavesInM Fence.wide 0 P fn a.tmps (Ret P X e σ K) [] (settle u') w2
          rw [hs]
          obtain ⟨v, y, q1, q2, q3⟩ := results_ok (K := fun v => K v ⟨σ2.h, σ2.nx, σ.df⟩) k3 ((g5 fr rfl).mono k1) k2
          exact ⟨y, q3, v, e2, ⟨σ2.h, σ2.nx, σ.df⟩, g1.trans k1, k2.df _, q2, q1, rfl⟩
        | panicked c => exact hr.elim
        | outgrown => exact hr.elim)
  rw [run_callFunc hN hf hb]
  exact callsIn_wide.1 (callsIn_of_wp_marks (F := Fence.wide) (n := 0) hf hb trivial hwp)

theorem natB_zero {Z : Bool} {S : Nat → Bool} : natB 0 Z S = Z := rfl

theorem putsK_ok {e : Env} {K : Fr → Bool} : ∀ (ps : List Nat) (args : List AV) (xs : List Value) {fr : Fr} {T : Array Value}, putsK ps args fr K = true → LRel e args xs → FRel e fr T → ps.length = xs.length ∧ ∃ fr', FRel e fr' ((ps.zip xs).foldl (fun t p => t.setIfInBounds p.1 p.2) T) ∧ K fr' = true
  | [], args, xs, fr, T, h, hl, hf => by
    cases args with
    | cons _ _ => exact nomatch (show false = true from h)
    | nil => cases hl; exact ⟨rfl, fr, hf, h⟩
  | t :: ps, args, xs, fr, T, h, hl, hf => by
    cases args with
    | nil => exact nomatch (show false = true from h)
    | cons v r =>
      obtain ⟨x, ys, hv, hr, rfl⟩ := hl
      obtain ⟨h1, h2⟩ := frSetK_iff.1 (show frSetK t v fr (fun fr => putsK ps r fr K) = true from h)
      have hf' : FRel e (TL.set 2 t (some v) fr) (T.setIfInBounds t x) := hf.put (a := ⟨T, []⟩) h1 hv
      obtain ⟨h3, fr', h4, h5⟩ := putsK_ok ps r ys h2 hr hf'
      exact ⟨by simp [h3], fr', h4, h5⟩

/-- A loop's record is turned. -/
theorem WRel.lp {e : Env} {σ : St} {w : World} {lb l : Nat} {st : Nat} {p : Option Nat} {f : Fr} {q : List Nat} {a b : Code} {d : Nat} (hw : WRel P X e σ w) (hA : σ.get lb = some (.lp st p f q a b d)) (hl : e.blk lb = some l) (hs : σ.slot lb) :
    ∃ r : Loop, w.heap[l]? = some (.loop r) ∧ LpSt st p r ∧ r.params.toList = q ∧ r.assign = a ∧ r.body = b ∧ FRel e f r.tmps ∧ ∀ st' p' r', LpSt st' p' r' → r'.tmps = r.tmps → r'.params = r.params → r'.assign = r.assign → r'.body = r.body → r'.defers = r.defers →
      WRel P X e (σ.put lb (some (.lp st' p' f q a b d))) (w.putObj l (.loop r')) := by
  obtain ⟨c, o, q1, q2, ⟨r, rfl, s1, s2, s3, s4, s5, s6⟩, q8⟩ := hw.blk _ _ hA
  rw [hl] at q1; cases q1
  refine ⟨r, q2, s6, s2, s3, s4, s1, fun st' p' r' t1 t2 t3 t4 t5 t6 => ?_⟩
  exact hw.set (A' := .lp st' p' f q a b d) (o' := .loop r') hA hl hs ⟨r', rfl, by rw [t2]; exact s1, by rw [t3]; exact s2, t4.trans s3, t5.trans s4, by rw [t6]; exact s5, t1⟩ rfl rfl rfl rfl

theorem roundK_ok {cH : PH} (hN : NoCount P) (hH : ∀ p, CallHOk P (X.on p) (cH p)) (hD : DrawOk P X cH) {m lb l : Nat} {args : List AV} {xs : List Value} {e : Env} {σ : St} {w : World} {K : AV → St → Bool}
    (h : roundK P cH m lb args σ K = true) (hl : e.blk lb = some l) (ha : LRel e args xs) (hw : WRel P X e σ w) : OpOk P X e σ K ((Instr.yield l xs.toArray).run P w) := by
  obtain ⟨A, hA, h1⟩ := hGetK_iff.1 h
  obtain ⟨st, p, fr, ps, as, bd, db, rfl, h2⟩ := onLp_iff.1 h1
  cases st with
  | succ _ => exact nomatch (show false = true from h2)
  | zero =>
    obtain ⟨n1, h3⟩ := ifB_iff.1 (show ifB (noDef as) _ false = true from h2)
    obtain ⟨n2, h4⟩ := ifB_iff.1 h3
    obtain ⟨c, o, q1, q2, ⟨r, rfl, s1, s2, s3, s4, s5, s6⟩, q8⟩ := hw.blk _ _ hA
    rw [hl] at q1; cases q1
    obtain ⟨k1, fr1, k2, k3⟩ := putsK_ok ps args xs h4 ha s1
    have hlen : xs.toArray.size = r.params.size := by
      have := congrArg List.length s2
      simp only [List.size_toArray]
      rw [← k1, ← this, Array.length_toList]
    rw [run_yield q2 hlen]
    have htm : (r.params.zip xs.toArray).foldl (fun tmps (t, a) => tmps.setIfInBounds t a) r.tmps = (ps.zip xs).foldl (fun t p => t.setIfInBounds p.1 p.2) r.tmps := by
      rw [← Array.foldl_toList, Array.toList_zip, s2]
    rw [s3, s4]
    refine roundIn_of_wpIn trivial ?_
    rw [htm]
    have hinR : Fence.wide.inRound l = wideR (some l) := rfl
    rw [hinR]
    refine codeK_ok hN hH hD m as (ar := some lb) (ro := some l) hl (.inr n1) k3 (hw.df []) k2 rfl ?_ (fun id a w hn => ?_) (fun a w hn => ?_) (by rintro c a w' ⟨_, _, _, _, _, _, _, _, _, _, _, h⟩; cases h)
    · rintro a1 w1 ⟨e1, fr2, τ, g1, g2, g3, g4, g5⟩
      obtain ⟨B, hB, h5⟩ := hGetK_iff.1 g5
      obtain ⟨st, p, f, q, a, b, d, rfl, h6⟩ := onLp_iff.1 h5
      cases st with
      | succ _ => exact nomatch (show false = true from h6)
      | zero =>
        rw [natB_zero] at h6
        obtain ⟨hs, h7⟩ := hSetK_iff.1 h6
        have hl1 := g1.blk _ _ hl
        obtain ⟨r1, u1, ⟨u2, u3⟩, u4, u5, u6, u7, u8⟩ := g2.lp hB hl1 hs
        refine ⟨_, run_beginRound u1 u2, ?_⟩
        have hw2 := u8 1 p { r1 with state := .busy } rfl rfl rfl rfl rfl rfl
        -- the round's end
        have fin : ∀ {jump : Option Code} {v : AV} {st' : Nat} {ep : Option Nat} {e2 : Env} {τ2 : St} {w2 : World}, VRel e2 v (.bool jump.isNone) → (∀ r : Loop, LpSt st' ep { r with state := if jump.isNone then .ready else .done, pending := jump }) → Env.Le e1 e2 → WRel P X e2 τ2 w2 →
            roundK.endK lb st' ep τ2 (fun τ => K v ⟨τ.h, τ.nx, σ.df⟩) = true → ∃ v' w', (Instr.endRound l jump).run P w2 = .ok v' w' ∧ Ret P X e σ K (.returned v') w' := by
          intro jump v st' ep e2 τ2 w2 hv hst hle hw3 hk
          unfold roundK.endK at hk
          cases hdf : τ2.df with
          | cons _ _ => rw [hdf] at hk; exact nomatch (show false = true from hk)
          | nil =>
            rw [hdf] at hk
            obtain ⟨C, hC, h8⟩ := hGetK_iff.1 (show hGetK lb τ2 _ = true from hk)
            obtain ⟨st3, p3, f3, q3, a3, b3, d3, rfl, h9⟩ := onLp_iff.1 h8
            obtain ⟨hs3, h10⟩ := hSetK_iff.1 h9
            obtain ⟨r3, v1, _, _, _, _, _, v8⟩ := hw3.lp hC (hle.blk _ _ hl1) hs3
            refine ⟨_, _, run_endRound jump v1, v, e2, _, g1.trans hle, (v8 st' ep { r3 with state := if jump.isNone then .ready else .done, pending := jump } (hst r3) rfl rfl rfl rfl rfl).df _, hv, h10, rfl⟩
        refine codeK_ok hN hH hD m bd (ar := some lb) (ro := some l) hl1 (.inr n2) h7 hw2 g3 g4 ?_ (fun id a w hn => ?_) (fun a w hn => ?_) (by rintro c a w' ⟨_, _, _, _, _, _, _, _, _, _, _, h⟩; cases h)
        · rintro a2 w2 ⟨e2, fr3, τ2, j1, j2, j3, j4, j5⟩
          exact fin (jump := none) (v := .bool true) (st' := 0) (ep := none) rfl (fun r => ⟨rfl, rfl⟩) j1 j2 j5
        · obtain ⟨e2, fr3, τ2, j1, j2, j3, j4, j5⟩ := hn
          exact fin (jump := some (.exit id)) (v := .bool false) (st' := 2) (ep := some id) rfl (fun r => ⟨rfl, rfl⟩) j1 j2 j5
        · obtain ⟨e2, fr3, τ2, j1, j2, j3, j4, j5⟩ := hn
          exact fin (jump := some .ret) (v := .bool false) (st' := 2) (ep := none) rfl (fun r => ⟨rfl, rfl⟩) j1 j2 j5
    · obtain ⟨_, _, _, _, _, _, _, h5⟩ := hn; cases h5
    · obtain ⟨_, _, _, _, _, _, _, h5⟩ := hn; cases h5
end
end Go.Ev

/- The evaluator, part 31: what only reads gives one value: the continuation is called once, whatever it is. -/
namespace Go.Ev

/-- False, or one of certain. -/
def Det {κ : Type} (pts : (κ → Bool) → Prop) (φ : κ → Bool) : Prop := (∀ p, φ p = false) ∨ pts φ

section
variable {κ : Type} {pts : (κ → Bool) → Prop}
theorem Det.band {b : Bool} {φ : κ → Bool} (h : Det pts φ) : Det pts (fun p => b && φ p) := by
  cases b with
  | true => exact h
  | false => exact .inl fun _ => rfl
theorem Det.fls : Det pts (fun _ => false) := .inl fun _ => rfl
theorem Det.d_ifB {b : Bool} {φ ψ : κ → Bool} (h : Det pts φ) (h' : Det pts ψ) : Det pts (fun p => ifB b (φ p) (ψ p)) := by cases b <;> assumption
theorem Det.d_optK {α : Type} {o : Option α} {ψ : α → κ → Bool} (h : ∀ a, Det pts (ψ a)) : Det pts (fun p => optK (fun a => ψ a p) o) := by
  cases o with
  | none => exact .fls
  | some a => exact h a
theorem Det.d_optB {α : Type} {o : Option α} {N : κ → Bool} {ψ : α → κ → Bool} (h0 : Det pts N) (h : ∀ a, Det pts (ψ a)) : Det pts (fun p => optB o (N p) fun a => ψ a p) := by
  cases o with
  | none => exact h0
  | some a => exact h a
theorem Det.d_consB {α : Type} {l : List α} {N : κ → Bool} {ψ : α → List α → κ → Bool} (h0 : Det pts N) (h : ∀ a r, Det pts (ψ a r)) : Det pts (fun p => consB l (N p) fun a r => ψ a r p) := by
  cases l with
  | nil => exact h0
  | cons a r => exact h a r
theorem Det.d_natB {n : Nat} {N : κ → Bool} {ψ : Nat → κ → Bool} (h0 : Det pts N) (h : ∀ a, Det pts (ψ a)) : Det pts (fun p => natB n (N p) fun a => ψ a p) := by
  cases n with
  | zero => exact h0
  | succ n => exact h n
theorem Det.d_forceN {n : Nat} {ψ : Nat → κ → Bool} (h : ∀ a, Det pts (ψ a)) : Det pts (fun p => forceN n fun a => ψ a p) := by
  simp only [forceN_eq]; exact h n
theorem Det.d_forceI {n : Int} {ψ : Int → κ → Bool} (h : ∀ a, Det pts (ψ a)) : Det pts (fun p => forceI n fun a => ψ a p) := by
  simp only [forceI_eq]; exact h n
theorem Det.d_forceB {n : Bool} {ψ : Bool → κ → Bool} (h : ∀ a, Det pts (ψ a)) : Det pts (fun p => forceB n fun a => ψ a p) := by
  simp only [forceB_eq]; exact h n
theorem Det.d_intK {k : IntKind} {x : Int} {ψ : AV → κ → Bool} (h : ∀ a, Det pts (ψ a)) : Det pts (fun p => intK k x fun a => ψ a p) := by
  simp only [intK_eq]; exact h _

theorem Det.d_onFunc {v : AV} {ψ : Fn → List AV → List AV → κ → Bool} (h : ∀ a b c, Det pts (ψ a b c)) : Det pts (fun p => onFunc v fun a b c => ψ a b c p) := by
  cases v <;> first | exact .fls | exact h _ _ _
theorem Det.d_onTuple {v : AV} {ψ : List AV → κ → Bool} (h : ∀ a, Det pts (ψ a)) : Det pts (fun p => onTuple v fun a => ψ a p) := by
  cases v <;> first | exact .fls | exact h _
theorem Det.d_onIface {v : AV} {ψ : TypeId → AV → κ → Bool} (h : ∀ a b, Det pts (ψ a b)) : Det pts (fun p => onIface v fun a b => ψ a b p) := by
  cases v <;> first | exact .fls | exact h _ _
theorem Det.d_onAgg {v : AV} {ψ : List AV → κ → Bool} (h : ∀ a, Det pts (ψ a)) : Det pts (fun p => onAgg v fun a => ψ a p) := by
  cases v <;> first | exact .fls | exact h _
theorem Det.d_onStr {v : AV} {ψ : Nat → Nat → κ → Bool} (h : ∀ a b, Det pts (ψ a b)) : Det pts (fun p => onStr v fun a b => ψ a b p) := by
  cases v <;> first | exact .fls | exact h _ _
theorem Det.d_onSlice {v : AV} {ψ : Nat → Nat → Nat → Option Nat → κ → Bool} (h : ∀ a b c d, Det pts (ψ a b c d)) : Det pts (fun p => onSlice v fun a b c d => ψ a b c d p) := by
  cases v <;> first | exact .fls | exact h _ _ _ _
theorem Det.d_onPtr {v : AV} {ψ : Nat → Nat → κ → Bool} (h : ∀ a b, Det pts (ψ a b)) : Det pts (fun p => onPtr v fun a b => ψ a b p) := by
  cases v <;> first | exact .fls | exact h _ _
theorem Det.d_onBool {v : AV} {ψ : Bool → κ → Bool} (h : ∀ a, Det pts (ψ a)) : Det pts (fun p => onBool v fun a => ψ a p) := by
  cases v <;> first | exact .fls | exact h _
theorem Det.d_onInt {v : AV} {ψ : IntKind → Int → κ → Bool} (h : ∀ a b, Det pts (ψ a b)) : Det pts (fun p => onInt v fun a b => ψ a b p) := by
  cases v <;> first | exact .fls | exact h _ _
theorem Det.d_onMap {v : AV} {ψ : Nat → κ → Bool} (h : ∀ a, Det pts (ψ a)) : Det pts (fun p => onMap v fun a => ψ a p) := by
  cases v <;> first | exact .fls | exact h _
theorem Det.d_onSliceN {v : AV} {N : κ → Bool} {ψ : Nat → Nat → Nat → Option Nat → κ → Bool} (h0 : Det pts N) (h : ∀ a b c d, Det pts (ψ a b c d)) : Det pts (fun p => onSliceN v (N p) fun a b c d => ψ a b c d p) := by
  cases v <;> first | exact .fls | exact h0 | exact h _ _ _ _
theorem Det.d_onMapN {v : AV} {N : κ → Bool} {ψ : Nat → κ → Bool} (h0 : Det pts N) (h : ∀ a, Det pts (ψ a)) : Det pts (fun p => onMapN v (N p) fun a => ψ a p) := by
  cases v <;> first | exact .fls | exact h0 | exact h _
theorem Det.d_onSliceE {v : AV} {N E : κ → Bool} {ψ : Nat → Nat → Nat → Option Nat → κ → Bool} (h0 : Det pts N) (h1 : Det pts E) (h : ∀ a b c d, Det pts (ψ a b c d)) : Det pts (fun p => onSliceE v (N p) (E p) fun a b c d => ψ a b c d p) := by
  cases v <;> first | exact .fls | exact h0 | exact h1 | exact h _ _ _ _
theorem Det.d_onIfaceN {v : AV} {N : κ → Bool} {ψ : TypeId → AV → κ → Bool} (h0 : Det pts N) (h : ∀ a b, Det pts (ψ a b)) : Det pts (fun p => onIfaceN v (N p) fun a b => ψ a b p) := by
  cases v <;> first | exact .fls | exact h0 | exact h _ _
theorem Det.d_onCells {A : ABlk} {ψ : Cs → Nat → TypeId → Bool → Nat → Bool → κ → Bool} (h : ∀ a b c d e f, Det pts (ψ a b c d e f)) : Det pts (fun p => onCells A fun a b c d e f => ψ a b c d e f p) := by
  cases A <;> first | exact .fls | exact h _ _ _ _ _ _
theorem Det.d_onMapB {A : ABlk} {ψ : List AEnt → Nat → κ → Bool} (h : ∀ a b, Det pts (ψ a b)) : Det pts (fun p => onMapB A fun a b => ψ a b p) := by
  cases A <;> first | exact .fls | exact h _ _
theorem Det.d_onIterB {A : ABlk} {ψ : Option Nat → Nat → List Nat → Nat → κ → Bool} (h : ∀ a b c d, Det pts (ψ a b c d)) : Det pts (fun p => onIterB A fun a b c d => ψ a b c d p) := by
  cases A <;> first | exact .fls | exact h _ _ _ _
theorem Det.d_natK {v : AV} {ψ : Nat → κ → Bool} (h : ∀ a, Det pts (ψ a)) : Det pts (fun p => natK v fun a => ψ a p) := by
  refine Det.d_onInt fun _ n => ?_
  cases n with
  | ofNat m => exact h m
  | negSucc m => exact .fls

theorem hGetK_eq {b : Nat} {σ : St} {K : ABlk → Bool} : hGetK b σ K = optK K (σ.get b) := by
  rw [Bool.eq_iff_iff, hGetK_iff, optK_iff]
theorem csGetK_eq {c : Cs} {i : Nat} {K : AV → Bool} : csGetK c i K = optK K (c.get i) := by
  rw [Bool.eq_iff_iff, csGetK_iff, optK_iff]
theorem frGetK_eq {t : Nat} {fr : Fr} {K : AV → Bool} : frGetK t fr K = optK K (TL.get 2 t fr).join := by
  rw [Bool.eq_iff_iff, frGetK_iff, optK_iff]
theorem Det.hGet {b : Nat} {h : TL (Option ABlk) HL} {nx : κ → Nat} {df : List ADef} {ψ : ABlk → κ → Bool} (hh : ∀ a, Det pts (ψ a)) : Det pts (fun p => hGetK b ⟨h, nx p, df⟩ fun a => ψ a p) := by
  simp only [hGetK_eq]
  exact Det.d_optK (o := (TL.get HL b h).join) hh
theorem Det.csGet {c : Cs} {i : Nat} {ψ : AV → κ → Bool} (h : ∀ a, Det pts (ψ a)) : Det pts (fun p => csGetK c i fun a => ψ a p) := by
  simp only [csGetK_eq]
  exact Det.d_optK h
theorem Det.frGet {t : Nat} {fr : Fr} {ψ : AV → κ → Bool} (h : ∀ a, Det pts (ψ a)) : Det pts (fun p => frGetK t fr fun a => ψ a p) := by
  simp only [frGetK_eq]
  exact Det.d_optK h
theorem Det.csSet {c : Cs} {i : Nat} {v : AV} {ψ : Cs → κ → Bool} (h : ∀ a, Det pts (ψ a)) : Det pts (fun p => csSetK c i v fun a => ψ a p) := by
  classical
  by_cases q : ∃ u, TL.get (c.h + 1) i c.t = some u
  · have : (fun p => csSetK c i v fun a => ψ a p) = ψ (c.set i v) := by
      funext p; rw [Bool.eq_iff_iff, csSetK_iff]; exact ⟨fun x => x.2, fun x => ⟨q, x⟩⟩
    rw [this]; exact h _
  · refine .inl fun p => ?_
    rw [Bool.eq_false_iff]
    intro hh
    exact q (csSetK_iff.1 hh).1
theorem Det.d_opd {x : Operand} {fr : Fr} {ψ : AV → κ → Bool} (h : ∀ a, Det pts (ψ a)) : Det pts (fun p => opd x fr fun a => ψ a p) := by
  cases x with
  | tmp t => exact Det.frGet h
  | const v =>
    refine Det.d_optK (o := absV v) (ψ := fun a p => forceAV a fun a => ψ a p) fun a => ?_
    simp only [forceAV_eq]; exact h a
  | global g => exact Det.d_ifB (h _) .fls
  | func f => exact h _
theorem Det.d_opds {fr : Fr} : ∀ {l : List Operand} {ψ : List AV → κ → Bool}, (∀ a, Det pts (ψ a)) → Det pts (fun p => opds l fr fun a => ψ a p)
  | [], _, h => h []
  | x :: l, ψ, h => Det.d_opd (x := x) (ψ := fun v p => opds l fr fun r => ψ (v :: r) p) fun v => Det.d_opds (l := l) (ψ := fun r => ψ (v :: r)) fun r => h _
theorem Det.d_opdO {x : Option Operand} {fr : Fr} {ψ : Option AV → κ → Bool} (h : ∀ a, Det pts (ψ a)) : Det pts (fun p => opdO x fr fun a => ψ a p) :=
  Det.d_optB (h none) fun x => Det.d_opd (ψ := fun v => ψ (some v)) fun v => h _
theorem Det.parts {fr : Fr} : ∀ {l : List (Nat × Operand)} {ψ : List (Nat × AV) → κ → Bool}, (∀ a, Det pts (ψ a)) → Det pts (fun p => partsK l fr fun a => ψ a p)
  | [], _, h => h []
  | x :: l, ψ, h => Det.d_opd (x := x.2) (ψ := fun v p => partsK l fr fun r => ψ ((x.1, v) :: r) p) fun v => Det.parts (l := l) (ψ := fun r => ψ ((x.1, v) :: r)) fun r => h _

/-! ### Lists and cells -/
theorem Det.rd {c : Cs} : ∀ {n o : Nat} {acc : List AV} {ψ : List AV → κ → Bool}, (∀ a, Det pts (ψ a)) → Det pts (fun p => rdK n o c acc fun a => ψ a p)
  | 0, o, acc, ψ, h => h acc
  | n + 1, o, acc, ψ, h => Det.csGet (ψ := fun v p => rdK n o c (v :: acc) fun a => ψ a p) fun v => Det.rd h
theorem Det.fill : ∀ {l : List AV} {o : Nat} {c : Cs} {ψ : Cs → κ → Bool}, (∀ a, Det pts (ψ a)) → Det pts (fun p => fillK l o c fun a => ψ a p)
  | [], o, c, ψ, h => h c
  | v :: l, o, c, ψ, h => Det.csSet (ψ := fun c' p => forceN (Nat.succ o) fun o' => fillK l o' c' fun a => ψ a p) fun c' => Det.d_forceN fun o' => Det.fill h
theorem Det.split : ∀ {n : Nat} {l : List AV} {ψ : List AV → List AV → κ → Bool}, (∀ a b, Det pts (ψ a b)) → Det pts (fun p => splitK n l fun a b => ψ a b p)
  | 0, l, ψ, h => h [] l
  | n + 1, l, ψ, h => Det.d_consB (ψ := fun x r p => splitK n r fun a b => ψ (x :: a) b p) .fls fun x r => Det.split (ψ := fun a b => ψ (x :: a) b) fun a b => h _ _
theorem Det.app {a b : List AV} {ψ : List AV → κ → Bool} (h : ∀ a, Det pts (ψ a)) : Det pts (fun p => appK a b fun a => ψ a p) := by
  simp only [appK_eq]; exact h _
theorem Det.nth {l : List AV} {n : Nat} {ψ : AV → κ → Bool} (h : ∀ a, Det pts (ψ a)) : Det pts (fun p => nthK l n fun a => ψ a p) :=
  Det.split (ψ := fun _ r p => consB r false fun x _ => ψ x p) fun _ r => Det.d_consB .fls fun x _ => h x
theorem Det.splice {l vs : List AV} {o : Nat} {ψ : List AV → κ → Bool} (h : ∀ a, Det pts (ψ a)) : Det pts (fun p => spliceK l o vs fun a => ψ a p) :=
  Det.split (ψ := fun a r p => splitK (lenL vs) r fun _ z => appK vs z fun y => appK a y fun a => ψ a p) fun a r => Det.split (ψ := fun _ z p => appK vs z fun y => appK a y fun a => ψ a p) fun _ z =>
    Det.app (ψ := fun y p => appK a y fun a => ψ a p) fun y => Det.app h
theorem Det.fillParts {pl : Nat → Option (Nat × Nat)} : ∀ {ps : List (Nat × AV)} {l : List AV} {ψ : List AV → κ → Bool}, (∀ a, Det pts (ψ a)) → Det pts (fun p => fillPartsK pl ps l fun a => ψ a p)
  | [], l, ψ, h => h l
  | x :: ps, l, ψ, h => Det.d_optK (ψ := fun (q : Nat × Nat) p => ifB (Nat.beq (lenL (cellsOf x.2)) q.2) (spliceK l q.1 (cellsOf x.2) fun l => fillPartsK pl ps l fun a => ψ a p) false) fun q => Det.d_ifB (Det.splice (ψ := fun l p => fillPartsK pl ps l fun a => ψ a p) fun l => Det.fillParts h) .fls
theorem Det.rpt : ∀ {n : Nat} {z : List AV} {ψ : List AV → κ → Bool}, (∀ a, Det pts (ψ a)) → Det pts (fun p => repeatK n z fun a => ψ a p)
  | 0, z, ψ, h => h []
  | n + 1, z, ψ, h => Det.rpt (n := n) (ψ := fun r p => appK z r fun a => ψ a p) fun r => Det.app h
theorem Det.row {e : TypeId} {l : List AV} {ψ : ABlk → κ → Bool} (h : ∀ a, Det pts (ψ a)) : Det pts (fun p => rowK e l fun a => ψ a p) :=
  Det.d_forceN (ψ := fun n p => fillK l 0 (eCs n) fun c => ψ (.cells c n e false 0 false) p) fun n => Det.fill fun c => h _
theorem Det.zeros {P : Program} {e : TypeId} {size n : Nat} {ψ : List AV → κ → Bool} (h : ∀ a, Det pts (ψ a)) : Det pts (fun p => zerosK P e size n fun a => ψ a p) :=
  Det.d_ifB (h []) (Det.d_optK fun z => Det.d_ifB (Det.rpt h) .fls)
theorem Det.strCells' : ∀ {l n : Nat} {acc : List AV} {ψ : List AV → κ → Bool}, (∀ a, Det pts (ψ a)) → Det pts (fun p => Nat.rec (motive := fun _ => List AV → Bool) (fun acc => ψ acc p)
    (fun j ih acc => forceN (Nat.mod (Nat.div n (Nat.pow 256 j)) 256) fun c => ih (.int .u8 (.ofNat c) :: acc)) l acc)
  | 0, n, acc, ψ, h => h acc
  | l + 1, n, acc, ψ, h => Det.d_forceN (ψ := fun c p => Nat.rec (motive := fun _ => List AV → Bool) (fun acc => ψ acc p)
    (fun j ih acc => forceN (Nat.mod (Nat.div n (Nat.pow 256 j)) 256) fun c => ih (.int .u8 (.ofNat c) :: acc)) l (.int .u8 (.ofNat c) :: acc)) fun c => Det.strCells' h
theorem Det.pack : ∀ {l : List AV} {ψ : Nat → κ → Bool}, (∀ a, Det pts (ψ a)) → Det pts (fun p => packCellsK l fun a => ψ a p)
  | [], ψ, h => h 0
  | v :: l, ψ, h => by
    refine Det.d_onInt (ψ := fun k n p => ifB (Nat.beq (ikN k) 4) (Int.rec (fun c => ifB (Nat.ble c 255) (packCellsK l fun r => forceN (Nat.add c (Nat.mul 256 r)) fun a => ψ a p) false) (fun _ => false) n) false) fun k n => Det.d_ifB ?_ .fls
    cases n with
    | ofNat c => exact Det.d_ifB (Det.pack (ψ := fun r p => forceN (Nat.add c (Nat.mul 256 r)) fun a => ψ a p) fun r => Det.d_forceN h) .fls
    | negSucc c => exact .fls
theorem Det.bound {x : Option AV} {d lim : Nat} {ψ : Nat → κ → Bool} (h : ∀ a, Det pts (ψ a)) : Det pts (fun p => boundK x d lim fun a => ψ a p) :=
  Det.d_optB (h d) fun v => Det.d_natK (ψ := fun i p => ifB (Nat.ble i lim) (ψ i p) false) fun i => Det.d_ifB (h i) .fls
theorem Det.partAt {sh : Option Nat} {o : Nat} {l : List AV} {ψ : AV → κ → Bool} (h : ∀ a, Det pts (ψ a)) : Det pts (fun p => partAtK sh o l fun a => ψ a p) :=
  Det.d_optB (Det.nth h) fun n => Det.split (ψ := fun _ r p => splitK n r fun a _ => ψ (.agg a) p) fun _ r => Det.split (ψ := fun a _ p => ψ (.agg a) p) fun a _ => h _
theorem Det.head {sh : Option Nat} {l : List AV} {ψ : AV → List AV → κ → Bool} (h : ∀ a b, Det pts (ψ a b)) : Det pts (fun p => headK sh l fun a b => ψ a b p) :=
  Det.d_optB (Det.d_consB .fls h) fun n => Det.split (ψ := fun a r p => ψ (.agg a) r p) fun a r => h _ _
end

section
variable {κ : Type} {pts : (κ → Bool) → Prop} {P : Program} {hp : TL (Option ABlk) HL} {nx : κ → Nat} {df : List ADef}
theorem Det.readSl {v : AV} {size : Nat} {ψ : List AV → Nat → κ → Bool} (h : ∀ a b, Det pts (ψ a b)) : Det pts (fun p => readSlK v size ⟨hp, nx p, df⟩ fun a b => ψ a b p) := by
  unfold readSlK
  refine .d_onSliceE (h _ _) (h _ _) fun b o len _ => .d_ifB (h _ _) (.hGet fun A => .d_onCells fun c _ _ _ _ _ => .rd fun l => h _ _)

theorem Det.load {t : TypeId} {v : AV} {ψ : AV → κ → Bool} (h : ∀ a, Det pts (ψ a)) {Kp : κ → AV → St → Bool} (hK : ∀ p a, Kp p a ⟨hp, nx p, df⟩ = ψ a p) : Det pts (fun p => loadK P t v ⟨hp, nx p, df⟩ (Kp p)) := by
  unfold loadK
  simp only [hK]
  with_reducible repeat' (first | exact .fls | exact h _ | exact h _ _ | exact h _ _ _ | (refine .d_ifB ?_ ?_) | (refine .d_optK ?_) | (refine .d_optB ?_ ?_) | (refine .d_consB ?_ ?_) | (refine .d_natB ?_ ?_) | (refine .d_forceN ?_) | (refine .d_forceI ?_) | (refine .d_forceB ?_) | (refine .d_intK ?_) | (refine .d_onFunc ?_) | (refine .d_onTuple ?_) | (refine .d_onIface ?_) | (refine .d_onAgg ?_) | (refine .d_onStr ?_) | (refine .d_onSlice ?_) | (refine .d_onPtr ?_) | (refine .d_onBool ?_) | (refine .d_onInt ?_) | (refine .d_onMap ?_) | (refine .d_onSliceN ?_ ?_) | (refine .d_onMapN ?_ ?_) | (refine .d_onSliceE ?_ ?_ ?_) | (refine .d_onIfaceN ?_ ?_) | (refine .d_onCells ?_) | (refine .d_onMapB ?_) | (refine .d_onIterB ?_) | (refine .hGet ?_) | (refine .csGet ?_) | (refine .csSet ?_) | (refine .d_natK ?_) | (refine .rd ?_) | intro _)
theorem Det.fieldAddr {t : TypeId} {v : AV} {f : Nat} {ψ : AV → κ → Bool} (h : ∀ a, Det pts (ψ a)) : Det pts (fun p => fieldAddrK P t v f fun a => ψ a p) := by
  unfold fieldAddrK
  with_reducible repeat' (first | exact .fls | exact h _ | exact h _ _ | exact h _ _ _ | (refine .d_ifB ?_ ?_) | (refine .d_optK ?_) | (refine .d_optB ?_ ?_) | (refine .d_consB ?_ ?_) | (refine .d_natB ?_ ?_) | (refine .d_forceN ?_) | (refine .d_forceI ?_) | (refine .d_forceB ?_) | (refine .d_intK ?_) | (refine .d_onFunc ?_) | (refine .d_onTuple ?_) | (refine .d_onIface ?_) | (refine .d_onAgg ?_) | (refine .d_onStr ?_) | (refine .d_onSlice ?_) | (refine .d_onPtr ?_) | (refine .d_onBool ?_) | (refine .d_onInt ?_) | (refine .d_onMap ?_) | (refine .d_onSliceN ?_ ?_) | (refine .d_onMapN ?_ ?_) | (refine .d_onSliceE ?_ ?_ ?_) | (refine .d_onIfaceN ?_ ?_) | (refine .d_onCells ?_) | (refine .d_onMapB ?_) | (refine .d_onIterB ?_) | (refine .hGet ?_) | (refine .csGet ?_) | (refine .csSet ?_) | (refine .d_natK ?_) | intro _)
theorem Det.field {t : TypeId} {v : AV} {f : Nat} {ψ : AV → κ → Bool} (h : ∀ a, Det pts (ψ a)) : Det pts (fun p => fieldK P t v f fun a => ψ a p) := by
  unfold fieldK
  with_reducible repeat' (first | exact .fls | exact h _ | exact h _ _ | exact h _ _ _ | (refine .d_ifB ?_ ?_) | (refine .d_optK ?_) | (refine .d_optB ?_ ?_) | (refine .d_consB ?_ ?_) | (refine .d_natB ?_ ?_) | (refine .d_forceN ?_) | (refine .d_forceI ?_) | (refine .d_forceB ?_) | (refine .d_intK ?_) | (refine .d_onFunc ?_) | (refine .d_onTuple ?_) | (refine .d_onIface ?_) | (refine .d_onAgg ?_) | (refine .d_onStr ?_) | (refine .d_onSlice ?_) | (refine .d_onPtr ?_) | (refine .d_onBool ?_) | (refine .d_onInt ?_) | (refine .d_onMap ?_) | (refine .d_onSliceN ?_ ?_) | (refine .d_onMapN ?_ ?_) | (refine .d_onSliceE ?_ ?_ ?_) | (refine .d_onIfaceN ?_ ?_) | (refine .d_onCells ?_) | (refine .d_onMapB ?_) | (refine .d_onIterB ?_) | (refine .hGet ?_) | (refine .csGet ?_) | (refine .csSet ?_) | (refine .d_natK ?_) | (refine .partAt ?_) | intro _)
theorem Det.indexAddr {t : TypeId} {v i : AV} {ψ : AV → κ → Bool} (h : ∀ a, Det pts (ψ a)) : Det pts (fun p => indexAddrK P t v i fun a => ψ a p) := by
  unfold indexAddrK
  with_reducible repeat' (first | exact .fls | exact h _ | exact h _ _ | exact h _ _ _ | (refine .d_ifB ?_ ?_) | (refine .d_optK ?_) | (refine .d_optB ?_ ?_) | (refine .d_consB ?_ ?_) | (refine .d_natB ?_ ?_) | (refine .d_forceN ?_) | (refine .d_forceI ?_) | (refine .d_forceB ?_) | (refine .d_intK ?_) | (refine .d_onFunc ?_) | (refine .d_onTuple ?_) | (refine .d_onIface ?_) | (refine .d_onAgg ?_) | (refine .d_onStr ?_) | (refine .d_onSlice ?_) | (refine .d_onPtr ?_) | (refine .d_onBool ?_) | (refine .d_onInt ?_) | (refine .d_onMap ?_) | (refine .d_onSliceN ?_ ?_) | (refine .d_onMapN ?_ ?_) | (refine .d_onSliceE ?_ ?_ ?_) | (refine .d_onIfaceN ?_ ?_) | (refine .d_onCells ?_) | (refine .d_onMapB ?_) | (refine .d_onIterB ?_) | (refine .hGet ?_) | (refine .csGet ?_) | (refine .csSet ?_) | (refine .d_natK ?_) | intro _)
theorem Det.index {t : TypeId} {v i : AV} {ψ : AV → κ → Bool} (h : ∀ a, Det pts (ψ a)) : Det pts (fun p => indexK P t v i fun a => ψ a p) := by
  unfold indexK
  with_reducible repeat' (first | exact .fls | exact h _ | exact h _ _ | exact h _ _ _ | (refine .d_ifB ?_ ?_) | (refine .d_optK ?_) | (refine .d_optB ?_ ?_) | (refine .d_consB ?_ ?_) | (refine .d_natB ?_ ?_) | (refine .d_forceN ?_) | (refine .d_forceI ?_) | (refine .d_forceB ?_) | (refine .d_intK ?_) | (refine .d_onFunc ?_) | (refine .d_onTuple ?_) | (refine .d_onIface ?_) | (refine .d_onAgg ?_) | (refine .d_onStr ?_) | (refine .d_onSlice ?_) | (refine .d_onPtr ?_) | (refine .d_onBool ?_) | (refine .d_onInt ?_) | (refine .d_onMap ?_) | (refine .d_onSliceN ?_ ?_) | (refine .d_onMapN ?_ ?_) | (refine .d_onSliceE ?_ ?_ ?_) | (refine .d_onIfaceN ?_ ?_) | (refine .d_onCells ?_) | (refine .d_onMapB ?_) | (refine .d_onIterB ?_) | (refine .hGet ?_) | (refine .csGet ?_) | (refine .csSet ?_) | (refine .d_natK ?_) | (refine .partAt ?_) | intro _)
theorem Det.extract {v : AV} {i : Nat} {ψ : AV → κ → Bool} (h : ∀ a, Det pts (ψ a)) : Det pts (fun p => extractK v i fun a => ψ a p) := by
  unfold extractK
  with_reducible repeat' (first | exact .fls | exact h _ | exact h _ _ | exact h _ _ _ | (refine .d_ifB ?_ ?_) | (refine .d_optK ?_) | (refine .d_optB ?_ ?_) | (refine .d_consB ?_ ?_) | (refine .d_natB ?_ ?_) | (refine .d_forceN ?_) | (refine .d_forceI ?_) | (refine .d_forceB ?_) | (refine .d_intK ?_) | (refine .d_onFunc ?_) | (refine .d_onTuple ?_) | (refine .d_onIface ?_) | (refine .d_onAgg ?_) | (refine .d_onStr ?_) | (refine .d_onSlice ?_) | (refine .d_onPtr ?_) | (refine .d_onBool ?_) | (refine .d_onInt ?_) | (refine .d_onMap ?_) | (refine .d_onSliceN ?_ ?_) | (refine .d_onMapN ?_ ?_) | (refine .d_onSliceE ?_ ?_ ?_) | (refine .d_onIfaceN ?_ ?_) | (refine .d_onCells ?_) | (refine .d_onMapB ?_) | (refine .d_onIterB ?_) | (refine .hGet ?_) | (refine .csGet ?_) | (refine .csSet ?_) | (refine .d_natK ?_) | (refine .nth ?_) | intro _)
theorem Det.cut {b o size l h' m : Nat} {ψ : AV → κ → Bool} (h : ∀ a, Det pts (ψ a)) : Det pts (fun p => cutK b o size l h' m fun a => ψ a p) := by
  unfold cutK
  with_reducible repeat' (first | exact .fls | exact h _ | exact h _ _ | exact h _ _ _ | (refine .d_ifB ?_ ?_) | (refine .d_optK ?_) | (refine .d_optB ?_ ?_) | (refine .d_consB ?_ ?_) | (refine .d_natB ?_ ?_) | (refine .d_forceN ?_) | (refine .d_forceI ?_) | (refine .d_forceB ?_) | (refine .d_intK ?_) | (refine .d_onFunc ?_) | (refine .d_onTuple ?_) | (refine .d_onIface ?_) | (refine .d_onAgg ?_) | (refine .d_onStr ?_) | (refine .d_onSlice ?_) | (refine .d_onPtr ?_) | (refine .d_onBool ?_) | (refine .d_onInt ?_) | (refine .d_onMap ?_) | (refine .d_onSliceN ?_ ?_) | (refine .d_onMapN ?_ ?_) | (refine .d_onSliceE ?_ ?_ ?_) | (refine .d_onIfaceN ?_ ?_) | (refine .d_onCells ?_) | (refine .d_onMapB ?_) | (refine .d_onIterB ?_) | (refine .hGet ?_) | (refine .csGet ?_) | (refine .csSet ?_) | (refine .d_natK ?_) | intro _)
theorem Det.sliceArr {n size : Nat} {v : AV} {lo hi mx : Option AV} {ψ : AV → κ → Bool} (h : ∀ a, Det pts (ψ a)) : Det pts (fun p => sliceArrK n size v lo hi mx fun a => ψ a p) := by
  unfold sliceArrK
  with_reducible repeat' (first | exact .fls | exact h _ | exact h _ _ | exact h _ _ _ | (refine .d_ifB ?_ ?_) | (refine .d_optK ?_) | (refine .d_optB ?_ ?_) | (refine .d_consB ?_ ?_) | (refine .d_natB ?_ ?_) | (refine .d_forceN ?_) | (refine .d_forceI ?_) | (refine .d_forceB ?_) | (refine .d_intK ?_) | (refine .d_onFunc ?_) | (refine .d_onTuple ?_) | (refine .d_onIface ?_) | (refine .d_onAgg ?_) | (refine .d_onStr ?_) | (refine .d_onSlice ?_) | (refine .d_onPtr ?_) | (refine .d_onBool ?_) | (refine .d_onInt ?_) | (refine .d_onMap ?_) | (refine .d_onSliceN ?_ ?_) | (refine .d_onMapN ?_ ?_) | (refine .d_onSliceE ?_ ?_ ?_) | (refine .d_onIfaceN ?_ ?_) | (refine .d_onCells ?_) | (refine .d_onMapB ?_) | (refine .d_onIterB ?_) | (refine .hGet ?_) | (refine .csGet ?_) | (refine .csSet ?_) | (refine .d_natK ?_) | (refine .bound ?_) | (refine .cut ?_) | intro _)
theorem Det.sliceSl {size : Nat} {v : AV} {lo hi mx : Option AV} {ψ : AV → κ → Bool} (h : ∀ a, Det pts (ψ a)) : Det pts (fun p => sliceSlK size v lo hi mx fun a => ψ a p) := by
  unfold sliceSlK
  with_reducible repeat' (first | exact .fls | exact h _ | exact h _ _ | exact h _ _ _ | (refine .d_ifB ?_ ?_) | (refine .d_optK ?_) | (refine .d_optB ?_ ?_) | (refine .d_consB ?_ ?_) | (refine .d_natB ?_ ?_) | (refine .d_forceN ?_) | (refine .d_forceI ?_) | (refine .d_forceB ?_) | (refine .d_intK ?_) | (refine .d_onFunc ?_) | (refine .d_onTuple ?_) | (refine .d_onIface ?_) | (refine .d_onAgg ?_) | (refine .d_onStr ?_) | (refine .d_onSlice ?_) | (refine .d_onPtr ?_) | (refine .d_onBool ?_) | (refine .d_onInt ?_) | (refine .d_onMap ?_) | (refine .d_onSliceN ?_ ?_) | (refine .d_onMapN ?_ ?_) | (refine .d_onSliceE ?_ ?_ ?_) | (refine .d_onIfaceN ?_ ?_) | (refine .d_onCells ?_) | (refine .d_onMapB ?_) | (refine .d_onIterB ?_) | (refine .hGet ?_) | (refine .csGet ?_) | (refine .csSet ?_) | (refine .d_natK ?_) | (refine .bound ?_) | (refine .cut ?_) | intro _)
theorem Det.sliceStr {v : AV} {lo hi mx : Option AV} {ψ : AV → κ → Bool} (h : ∀ a, Det pts (ψ a)) : Det pts (fun p => sliceStrK v lo hi mx fun a => ψ a p) := by
  unfold sliceStrK
  with_reducible repeat' (first | exact .fls | exact h _ | exact h _ _ | exact h _ _ _ | (refine .d_ifB ?_ ?_) | (refine .d_optK ?_) | (refine .d_optB ?_ ?_) | (refine .d_consB ?_ ?_) | (refine .d_natB ?_ ?_) | (refine .d_forceN ?_) | (refine .d_forceI ?_) | (refine .d_forceB ?_) | (refine .d_intK ?_) | (refine .d_onFunc ?_) | (refine .d_onTuple ?_) | (refine .d_onIface ?_) | (refine .d_onAgg ?_) | (refine .d_onStr ?_) | (refine .d_onSlice ?_) | (refine .d_onPtr ?_) | (refine .d_onBool ?_) | (refine .d_onInt ?_) | (refine .d_onMap ?_) | (refine .d_onSliceN ?_ ?_) | (refine .d_onMapN ?_ ?_) | (refine .d_onSliceE ?_ ?_ ?_) | (refine .d_onIfaceN ?_ ?_) | (refine .d_onCells ?_) | (refine .d_onMapB ?_) | (refine .d_onIterB ?_) | (refine .hGet ?_) | (refine .csGet ?_) | (refine .csSet ?_) | (refine .d_natK ?_) | (refine .bound ?_) | (refine .cut ?_) | intro _)
theorem Det.slice {t : TypeId} {v : AV} {lo hi mx : Option AV} {ψ : AV → κ → Bool} (h : ∀ a, Det pts (ψ a)) : Det pts (fun p => sliceK P t v lo hi mx fun a => ψ a p) := by
  unfold sliceK
  with_reducible repeat' (first | exact .fls | exact h _ | exact h _ _ | exact h _ _ _ | (refine .d_ifB ?_ ?_) | (refine .d_optK ?_) | (refine .d_optB ?_ ?_) | (refine .d_consB ?_ ?_) | (refine .d_natB ?_ ?_) | (refine .d_forceN ?_) | (refine .d_forceI ?_) | (refine .d_forceB ?_) | (refine .d_intK ?_) | (refine .d_onFunc ?_) | (refine .d_onTuple ?_) | (refine .d_onIface ?_) | (refine .d_onAgg ?_) | (refine .d_onStr ?_) | (refine .d_onSlice ?_) | (refine .d_onPtr ?_) | (refine .d_onBool ?_) | (refine .d_onInt ?_) | (refine .d_onMap ?_) | (refine .d_onSliceN ?_ ?_) | (refine .d_onMapN ?_ ?_) | (refine .d_onSliceE ?_ ?_ ?_) | (refine .d_onIfaceN ?_ ?_) | (refine .d_onCells ?_) | (refine .d_onMapB ?_) | (refine .d_onIterB ?_) | (refine .hGet ?_) | (refine .csGet ?_) | (refine .csSet ?_) | (refine .d_natK ?_) | (refine .sliceArr ?_) | (refine .sliceSl ?_) | (refine .sliceStr ?_) | intro _)
theorem Det.widen {t : TypeId} {v : AV} {hi : Option AV} {ψ : AV → κ → Bool} (h : ∀ a, Det pts (ψ a)) : Det pts (fun p => widenK P t v hi ⟨hp, nx p, df⟩ fun a => ψ a p) := by
  cases hi with
  | none => exact h _
  | some u =>
    cases v with
    | slice b o len cap =>
      cases cap with
      | some c => exact h _
      | none =>
        exact Det.d_natK (v := u) (ψ := fun m p => ifB (Nat.ble m len) (ψ (.slice b o len none) p) (ifB (Nat.beq o 0) (optK (fun q => hGetK b ⟨hp, nx p, df⟩ fun A => onCells A fun _ n e op _ _ =>
          ifB op (ifB (Nat.beq e q.1) (ifB (Nat.beq q.2.1 0) false (ifB (Nat.ble (Nat.mul m q.2.1) n) (ψ (.slice b 0 m none) p) false)) false) false) (sliceOf P t)) false)) fun m =>
          .d_ifB (h _) (.d_ifB (.d_optK fun q => .hGet fun A => .d_onCells fun _ n e op _ _ => .d_ifB (.d_ifB (.d_ifB .fls (.d_ifB (h _) .fls)) .fls) .fls) .fls)
    | _ => exact h _

theorem Det.plain {b : Nat} {φ : κ → Bool} (h : Det pts φ) : Det pts (fun p => plainB b ⟨hp, nx p, df⟩ (φ p)) := by
  unfold plainB
  exact .hGet fun A => .d_onCells fun _ _ _ _ _ st => .d_ifB .fls h
theorem Det.ptrEq {e : TypeId} {x y : AV} {ψ : Bool → κ → Bool} (h : ∀ a, Det pts (ψ a)) : Det pts (fun p => ptrEqK P e x y ⟨hp, nx p, df⟩ fun a => ψ a p) := by
  cases x <;> first
    | exact .fls
    | (cases y <;> first
        | exact .fls
        | exact h _
        | exact .d_optK (ψ := fun sz p => ifB (Nat.beq sz 0) false (ifB (Nat.beq _ _) (forceB (Nat.beq _ _) fun a => ψ a p) (plainB _ _ (plainB _ _ (ψ false p))))) fun sz => .d_ifB .fls (.d_ifB (.d_forceB h) (.plain (.plain (h _)))))

theorem Det.nilEqSl {x y : AV} {ψ : Bool → κ → Bool} (h : ∀ a, Det pts (ψ a)) : Det pts (fun p => nilEqSlK x y fun a => ψ a p) := by
  unfold nilEqSlK
  with_reducible repeat' (first | exact .fls | exact h _ | exact h _ _ | exact h _ _ _ | (refine .d_ifB ?_ ?_) | (refine .d_optK ?_) | (refine .d_optB ?_ ?_) | (refine .d_consB ?_ ?_) | (refine .d_natB ?_ ?_) | (refine .d_forceN ?_) | (refine .d_forceI ?_) | (refine .d_forceB ?_) | (refine .d_intK ?_) | (refine .d_onFunc ?_) | (refine .d_onTuple ?_) | (refine .d_onIface ?_) | (refine .d_onAgg ?_) | (refine .d_onStr ?_) | (refine .d_onSlice ?_) | (refine .d_onPtr ?_) | (refine .d_onBool ?_) | (refine .d_onInt ?_) | (refine .d_onMap ?_) | (refine .d_onSliceN ?_ ?_) | (refine .d_onMapN ?_ ?_) | (refine .d_onSliceE ?_ ?_ ?_) | (refine .d_onIfaceN ?_ ?_) | (refine .d_onCells ?_) | (refine .d_onMapB ?_) | (refine .d_onIterB ?_) | (refine .hGet ?_) | (refine .csGet ?_) | (refine .csSet ?_) | (refine .d_natK ?_) | intro _)
theorem Det.nilEqMap {x y : AV} {ψ : Bool → κ → Bool} (h : ∀ a, Det pts (ψ a)) : Det pts (fun p => nilEqMapK x y fun a => ψ a p) := by
  unfold nilEqMapK
  with_reducible repeat' (first | exact .fls | exact h _ | exact h _ _ | exact h _ _ _ | (refine .d_ifB ?_ ?_) | (refine .d_optK ?_) | (refine .d_optB ?_ ?_) | (refine .d_consB ?_ ?_) | (refine .d_natB ?_ ?_) | (refine .d_forceN ?_) | (refine .d_forceI ?_) | (refine .d_forceB ?_) | (refine .d_intK ?_) | (refine .d_onFunc ?_) | (refine .d_onTuple ?_) | (refine .d_onIface ?_) | (refine .d_onAgg ?_) | (refine .d_onStr ?_) | (refine .d_onSlice ?_) | (refine .d_onPtr ?_) | (refine .d_onBool ?_) | (refine .d_onInt ?_) | (refine .d_onMap ?_) | (refine .d_onSliceN ?_ ?_) | (refine .d_onMapN ?_ ?_) | (refine .d_onSliceE ?_ ?_ ?_) | (refine .d_onIfaceN ?_ ?_) | (refine .d_onCells ?_) | (refine .d_onMapB ?_) | (refine .d_onIterB ?_) | (refine .hGet ?_) | (refine .csGet ?_) | (refine .csSet ?_) | (refine .d_natK ?_) | intro _)
theorem Det.nilEqFn {x y : AV} {ψ : Bool → κ → Bool} (h : ∀ a, Det pts (ψ a)) : Det pts (fun p => nilEqFnK x y fun a => ψ a p) := by
  cases x <;> first | exact .fls | (cases y <;> first | exact .fls | exact h _)

theorem Det.scalarEq {d : Nat} {x y : AV} {ψ : Bool → κ → Bool} (h : ∀ a, Det pts (ψ a)) : Det pts (fun p => scalarEqK d x y fun a => ψ a p) := by
  unfold scalarEqK
  with_reducible repeat' (first | exact .fls | exact h _ | exact h _ _ | exact h _ _ _ | (refine .d_ifB ?_ ?_) | (refine .d_optK ?_) | (refine .d_optB ?_ ?_) | (refine .d_consB ?_ ?_) | (refine .d_natB ?_ ?_) | (refine .d_forceN ?_) | (refine .d_forceI ?_) | (refine .d_forceB ?_) | (refine .d_intK ?_) | (refine .d_onFunc ?_) | (refine .d_onTuple ?_) | (refine .d_onIface ?_) | (refine .d_onAgg ?_) | (refine .d_onStr ?_) | (refine .d_onSlice ?_) | (refine .d_onPtr ?_) | (refine .d_onBool ?_) | (refine .d_onInt ?_) | (refine .d_onMap ?_) | (refine .d_onSliceN ?_ ?_) | (refine .d_onMapN ?_ ?_) | (refine .d_onSliceE ?_ ?_ ?_) | (refine .d_onIfaceN ?_ ?_) | (refine .d_onCells ?_) | (refine .d_onMapB ?_) | (refine .d_onIterB ?_) | (refine .hGet ?_) | (refine .csGet ?_) | (refine .csSet ?_) | (refine .d_natK ?_) | intro _)
theorem Det.eqv : ∀ {n : Nat} {t : TypeId} {x y : AV} {ψ : Bool → κ → Bool}, (∀ a, Det pts (ψ a)) → Det pts (fun p => eqvK P n t x y ⟨hp, nx p, df⟩ fun a => ψ a p)
  | 0, _, _, _, _, _ => .fls
  | n + 1, t, x, y, ψ, h => by
    show Det pts (fun p => optK _ (eqKind P t))
    refine .d_optK fun q => ?_
    cases q with
    | scalar d => exact .scalarEq h
    | ptr e => exact .ptrEq h
    | arr len e sh =>
      refine .d_onAgg fun xs => .d_onAgg fun ys => ?_
      induction len generalizing xs ys with
      | zero => exact h true
      | succ len ihl => exact .head fun a xs' => .head fun b ys' => .eqv (n := n) fun r => .d_ifB (ihl xs' ys') (h false)
    | str fs =>
      refine .d_onAgg fun xs => .d_onAgg fun ys => ?_
      induction fs with
      | nil => exact h true
      | cons f fs ihl => exact .partAt fun a => .partAt fun b => .eqv (n := n) fun r => .d_ifB ihl (h false)
    | ifc => exact .d_onIfaceN (.d_onIfaceN (h _) fun _ _ => h _) fun t u => .d_onIfaceN (h _) fun t' u' => .d_ifB (.d_ifB (.eqv (n := n) h) .fls) (h _)
    | nils d => exact .d_natB (.nilEqSl h) fun d => .d_natB (.nilEqMap h) fun _ => .nilEqFn h

theorem Det.bits {k : IntKind} {r : Nat} {ψ : AV → κ → Bool} (h : ∀ a, Det pts (ψ a)) : Det pts (fun p => bitsK k r fun a => ψ a p) := by
  unfold bitsK
  with_reducible repeat' (first | exact .fls | exact h _ | exact h _ _ | exact h _ _ _ | (refine .d_ifB ?_ ?_) | (refine .d_optK ?_) | (refine .d_optB ?_ ?_) | (refine .d_consB ?_ ?_) | (refine .d_natB ?_ ?_) | (refine .d_forceN ?_) | (refine .d_forceI ?_) | (refine .d_forceB ?_) | (refine .d_intK ?_) | (refine .d_onFunc ?_) | (refine .d_onTuple ?_) | (refine .d_onIface ?_) | (refine .d_onAgg ?_) | (refine .d_onStr ?_) | (refine .d_onSlice ?_) | (refine .d_onPtr ?_) | (refine .d_onBool ?_) | (refine .d_onInt ?_) | (refine .d_onMap ?_) | (refine .d_onSliceN ?_ ?_) | (refine .d_onMapN ?_ ?_) | (refine .d_onSliceE ?_ ?_ ?_) | (refine .d_onIfaceN ?_ ?_) | (refine .d_onCells ?_) | (refine .d_onMapB ?_) | (refine .d_onIterB ?_) | (refine .hGet ?_) | (refine .csGet ?_) | (refine .csSet ?_) | (refine .d_natK ?_) | intro _)
theorem Det.intBin {op : BinOp} {k : IntKind} {a b : Int} {ψ : AV → κ → Bool} (h : ∀ a, Det pts (ψ a)) : Det pts (fun p => intBinK op k a b fun a => ψ a p) := by
  cases op <;> simp only [intBinK] <;> with_reducible repeat' (first | exact .fls | exact h _ | exact h _ _ | exact h _ _ _ | (refine .d_ifB ?_ ?_) | (refine .d_optK ?_) | (refine .d_optB ?_ ?_) | (refine .d_consB ?_ ?_) | (refine .d_natB ?_ ?_) | (refine .d_forceN ?_) | (refine .d_forceI ?_) | (refine .d_forceB ?_) | (refine .d_intK ?_) | (refine .d_onFunc ?_) | (refine .d_onTuple ?_) | (refine .d_onIface ?_) | (refine .d_onAgg ?_) | (refine .d_onStr ?_) | (refine .d_onSlice ?_) | (refine .d_onPtr ?_) | (refine .d_onBool ?_) | (refine .d_onInt ?_) | (refine .d_onMap ?_) | (refine .d_onSliceN ?_ ?_) | (refine .d_onMapN ?_ ?_) | (refine .d_onSliceE ?_ ?_ ?_) | (refine .d_onIfaceN ?_ ?_) | (refine .d_onCells ?_) | (refine .d_onMapB ?_) | (refine .d_onIterB ?_) | (refine .hGet ?_) | (refine .csGet ?_) | (refine .csSet ?_) | (refine .d_natK ?_) | (refine .bits ?_) | intro _)
theorem Det.shift {op : BinOp} {k : IntKind} {a b : Int} {ψ : AV → κ → Bool} (h : ∀ a, Det pts (ψ a)) : Det pts (fun p => shiftK op k a b fun a => ψ a p) := by
  cases b with
  | negSucc y => exact .fls
  | ofNat y =>
    refine Det.d_forceN (n := cond (Nat.ble y k.bits) y k.bits) (ψ := fun n p => BinOp.rec false false false false false false false false (intK k (Int.mul a (.ofNat (Nat.pow 2 n))) fun a => ψ a p) (forceI (Int.fdiv a (.ofNat (Nat.pow 2 n))) fun x => ψ (.int k x) p)
      false false false false false false false op) fun n => ?_
    cases op <;> first | exact .fls | exact .d_intK h | exact .d_forceI fun x => h _
theorem Det.strBin {op : BinOp} {l n l' n' : Nat} {ψ : AV → κ → Bool} (h : ∀ a, Det pts (ψ a)) : Det pts (fun p => strBinK op l n l' n' fun a => ψ a p) := by
  cases op with
  | add => exact Det.d_ifB (Det.d_forceN fun m => Det.d_forceN fun r => h _) .fls
  | eql => exact Det.d_forceB fun r => h _
  | neq => exact Det.d_forceB fun r => h _
  | _ => exact .fls
theorem Det.isEq {op : BinOp} {E N : κ → Bool} (h : Det pts E) (h' : Det pts N) : Det pts (fun p => isEqOp op (E p) (N p)) := by
  cases op <;> first | exact h | exact h' | exact .fls
theorem Det.eqOp {op : BinOp} {t : TypeId} {a b : AV} {ψ : AV → κ → Bool} (h : ∀ a, Det pts (ψ a)) : Det pts (fun p => eqOpK P op t a b ⟨hp, nx p, df⟩ fun a => ψ a p) := by
  unfold eqOpK
  generalize eqFuel = n
  exact Det.isEq (Det.eqv fun r => h _) (Det.eqv fun r => Det.d_forceB fun r => h _)

theorem Det.bin {op : BinOp} {t : TypeId} {x y : Operand} {a b : AV} {ψ : AV → κ → Bool} (h : ∀ a, Det pts (ψ a)) : Det pts (fun p => binK P op t x y a b ⟨hp, nx p, df⟩ fun a => ψ a p) := by
  cases a <;> simp only [binK] <;> with_reducible repeat' (first | exact .fls | exact h _ | exact h _ _ | exact h _ _ _ | (refine .d_ifB ?_ ?_) | (refine .d_optK ?_) | (refine .d_optB ?_ ?_) | (refine .d_consB ?_ ?_) | (refine .d_natB ?_ ?_) | (refine .d_forceN ?_) | (refine .d_forceI ?_) | (refine .d_forceB ?_) | (refine .d_intK ?_) | (refine .d_onFunc ?_) | (refine .d_onTuple ?_) | (refine .d_onIface ?_) | (refine .d_onAgg ?_) | (refine .d_onStr ?_) | (refine .d_onSlice ?_) | (refine .d_onPtr ?_) | (refine .d_onBool ?_) | (refine .d_onInt ?_) | (refine .d_onMap ?_) | (refine .d_onSliceN ?_ ?_) | (refine .d_onMapN ?_ ?_) | (refine .d_onSliceE ?_ ?_ ?_) | (refine .d_onIfaceN ?_ ?_) | (refine .d_onCells ?_) | (refine .d_onMapB ?_) | (refine .d_onIterB ?_) | (refine .hGet ?_) | (refine .csGet ?_) | (refine .csSet ?_) | (refine .d_natK ?_) | (refine .eqOp ?_) | (refine .strBin ?_) | (refine .shift ?_) | (refine .intBin ?_) | intro _)
theorem Det.un {op : UnOp} {v : AV} {ψ : AV → κ → Bool} (h : ∀ a, Det pts (ψ a)) : Det pts (fun p => unK op v fun a => ψ a p) := by
  cases op <;> simp only [unK] <;> with_reducible repeat' (first | exact .fls | exact h _ | exact h _ _ | exact h _ _ _ | (refine .d_ifB ?_ ?_) | (refine .d_optK ?_) | (refine .d_optB ?_ ?_) | (refine .d_consB ?_ ?_) | (refine .d_natB ?_ ?_) | (refine .d_forceN ?_) | (refine .d_forceI ?_) | (refine .d_forceB ?_) | (refine .d_intK ?_) | (refine .d_onFunc ?_) | (refine .d_onTuple ?_) | (refine .d_onIface ?_) | (refine .d_onAgg ?_) | (refine .d_onStr ?_) | (refine .d_onSlice ?_) | (refine .d_onPtr ?_) | (refine .d_onBool ?_) | (refine .d_onInt ?_) | (refine .d_onMap ?_) | (refine .d_onSliceN ?_ ?_) | (refine .d_onMapN ?_ ?_) | (refine .d_onSliceE ?_ ?_ ?_) | (refine .d_onIfaceN ?_ ?_) | (refine .d_onCells ?_) | (refine .d_onMapB ?_) | (refine .d_onIterB ?_) | (refine .hGet ?_) | (refine .csGet ?_) | (refine .csSet ?_) | (refine .d_natK ?_) | (refine .bits ?_) | intro _)
theorem Det.build {t : TypeId} {ps : List (Nat × AV)} {ψ : AV → κ → Bool} (h : ∀ a, Det pts (ψ a)) : Det pts (fun p => buildK P t ps fun a => ψ a p) := by
  unfold buildK
  with_reducible repeat' (first | exact .fls | exact h _ | exact h _ _ | exact h _ _ _ | (refine .d_ifB ?_ ?_) | (refine .d_optK ?_) | (refine .d_optB ?_ ?_) | (refine .d_consB ?_ ?_) | (refine .d_natB ?_ ?_) | (refine .d_forceN ?_) | (refine .d_forceI ?_) | (refine .d_forceB ?_) | (refine .d_intK ?_) | (refine .d_onFunc ?_) | (refine .d_onTuple ?_) | (refine .d_onIface ?_) | (refine .d_onAgg ?_) | (refine .d_onStr ?_) | (refine .d_onSlice ?_) | (refine .d_onPtr ?_) | (refine .d_onBool ?_) | (refine .d_onInt ?_) | (refine .d_onMap ?_) | (refine .d_onSliceN ?_ ?_) | (refine .d_onMapN ?_ ?_) | (refine .d_onSliceE ?_ ?_ ?_) | (refine .d_onIfaceN ?_ ?_) | (refine .d_onCells ?_) | (refine .d_onMapB ?_) | (refine .d_onIterB ?_) | (refine .hGet ?_) | (refine .csGet ?_) | (refine .csSet ?_) | (refine .d_natK ?_) | (refine .fillParts ?_) | intro _)
theorem Det.s2ap {t : TypeId} {v : AV} {ψ : AV → κ → Bool} (h : ∀ a, Det pts (ψ a)) : Det pts (fun p => s2apK P t v fun a => ψ a p) := by
  unfold s2apK
  with_reducible repeat' (first | exact .fls | exact h _ | exact h _ _ | exact h _ _ _ | (refine .d_ifB ?_ ?_) | (refine .d_optK ?_) | (refine .d_optB ?_ ?_) | (refine .d_consB ?_ ?_) | (refine .d_natB ?_ ?_) | (refine .d_forceN ?_) | (refine .d_forceI ?_) | (refine .d_forceB ?_) | (refine .d_intK ?_) | (refine .d_onFunc ?_) | (refine .d_onTuple ?_) | (refine .d_onIface ?_) | (refine .d_onAgg ?_) | (refine .d_onStr ?_) | (refine .d_onSlice ?_) | (refine .d_onPtr ?_) | (refine .d_onBool ?_) | (refine .d_onInt ?_) | (refine .d_onMap ?_) | (refine .d_onSliceN ?_ ?_) | (refine .d_onMapN ?_ ?_) | (refine .d_onSliceE ?_ ?_ ?_) | (refine .d_onIfaceN ?_ ?_) | (refine .d_onCells ?_) | (refine .d_onMapB ?_) | (refine .d_onIterB ?_) | (refine .hGet ?_) | (refine .csGet ?_) | (refine .csSet ?_) | (refine .d_natK ?_) | intro _)
theorem Det.waits {g : Nat} {ψ : AV → κ → Bool} (h : ∀ a, Det pts (ψ a)) : Det pts (fun p => waitsK g ⟨hp, nx p, df⟩ fun a => ψ a p) := by
  unfold waitsK
  with_reducible repeat' (first | exact .fls | exact h _ | exact h _ _ | exact h _ _ _ | (refine .d_ifB ?_ ?_) | (refine .d_optK ?_) | (refine .d_optB ?_ ?_) | (refine .d_consB ?_ ?_) | (refine .d_natB ?_ ?_) | (refine .d_forceN ?_) | (refine .d_forceI ?_) | (refine .d_forceB ?_) | (refine .d_intK ?_) | (refine .d_onFunc ?_) | (refine .d_onTuple ?_) | (refine .d_onIface ?_) | (refine .d_onAgg ?_) | (refine .d_onStr ?_) | (refine .d_onSlice ?_) | (refine .d_onPtr ?_) | (refine .d_onBool ?_) | (refine .d_onInt ?_) | (refine .d_onMap ?_) | (refine .d_onSliceN ?_ ?_) | (refine .d_onMapN ?_ ?_) | (refine .d_onSliceE ?_ ?_ ?_) | (refine .d_onIfaceN ?_ ?_) | (refine .d_onCells ?_) | (refine .d_onMapB ?_) | (refine .d_onIterB ?_) | (refine .hGet ?_) | (refine .csGet ?_) | (refine .csSet ?_) | (refine .d_natK ?_) | intro _)
theorem Det.typeAssert {v : AV} {t : TypeId} {ok : Bool} {ψ : AV → κ → Bool} (h : ∀ a, Det pts (ψ a)) : Det pts (fun p => typeAssertK P v t ok fun a => ψ a p) := by
  unfold typeAssertK typeAssertK.holds typeAssertK.fails
  with_reducible repeat' (first | exact .fls | exact h _ | exact h _ _ | exact h _ _ _ | (refine .d_ifB ?_ ?_) | (refine .d_optK ?_) | (refine .d_optB ?_ ?_) | (refine .d_consB ?_ ?_) | (refine .d_natB ?_ ?_) | (refine .d_forceN ?_) | (refine .d_forceI ?_) | (refine .d_forceB ?_) | (refine .d_intK ?_) | (refine .d_onFunc ?_) | (refine .d_onTuple ?_) | (refine .d_onIface ?_) | (refine .d_onAgg ?_) | (refine .d_onStr ?_) | (refine .d_onSlice ?_) | (refine .d_onPtr ?_) | (refine .d_onBool ?_) | (refine .d_onInt ?_) | (refine .d_onMap ?_) | (refine .d_onSliceN ?_ ?_) | (refine .d_onMapN ?_ ?_) | (refine .d_onSliceE ?_ ?_ ?_) | (refine .d_onIfaceN ?_ ?_) | (refine .d_onCells ?_) | (refine .d_onMapB ?_) | (refine .d_onIterB ?_) | (refine .hGet ?_) | (refine .csGet ?_) | (refine .csSet ?_) | (refine .d_natK ?_) | intro _)
theorem Det.makeInterface {t : TypeId} {v : AV} {ψ : AV → κ → Bool} (h : ∀ a, Det pts (ψ a)) : Det pts (fun p => makeInterfaceK P t v fun a => ψ a p) := by
  unfold makeInterfaceK
  with_reducible repeat' (first | exact .fls | exact h _ | exact h _ _ | exact h _ _ _ | (refine .d_ifB ?_ ?_) | (refine .d_optK ?_) | (refine .d_optB ?_ ?_) | (refine .d_consB ?_ ?_) | (refine .d_natB ?_ ?_) | (refine .d_forceN ?_) | (refine .d_forceI ?_) | (refine .d_forceB ?_) | (refine .d_intK ?_) | (refine .d_onFunc ?_) | (refine .d_onTuple ?_) | (refine .d_onIface ?_) | (refine .d_onAgg ?_) | (refine .d_onStr ?_) | (refine .d_onSlice ?_) | (refine .d_onPtr ?_) | (refine .d_onBool ?_) | (refine .d_onInt ?_) | (refine .d_onMap ?_) | (refine .d_onSliceN ?_ ?_) | (refine .d_onMapN ?_ ?_) | (refine .d_onSliceE ?_ ?_ ?_) | (refine .d_onIfaceN ?_ ?_) | (refine .d_onCells ?_) | (refine .d_onMapB ?_) | (refine .d_onIterB ?_) | (refine .hGet ?_) | (refine .csGet ?_) | (refine .csSet ?_) | (refine .d_natK ?_) | intro _)
theorem Det.nilCheck {v : AV} {ψ : AV → κ → Bool} (h : ∀ a, Det pts (ψ a)) : Det pts (fun p => nilCheckK P v fun a => ψ a p) := by
  cases v with
  | func f first c =>
    cases f with
    | func g => exact h _
    | method name => exact Det.d_consB (l := first) (ψ := fun r _ p => onIface r fun t u => optK (fun q => optB q.2 (ψ (.func (.method name) first c) p) fun _ => onPtr u fun _ _ => ψ (.func (.method name) first c) p) (methodOf P t name)) .fls fun r _ => .d_onIface fun t u => .d_optK fun q => .d_optB (h _) fun _ => .d_onPtr fun _ _ => h _
    | _ => exact .fls
  | iface t u => exact h _
  | ptr b o => exact h _
  | _ => exact .fls
theorem Det.find {kt : TypeId} {k : AV} {es : List AEnt} {ψ : Option (Nat × AV) → κ → Bool} (h : ∀ a, Det pts (ψ a)) : Det pts (fun p => findK P kt k ⟨hp, nx p, df⟩ es fun a => ψ a p) := by
  unfold findK
  suffices ∀ i, Det pts (fun p => List.rec (motive := fun _ => Nat → Bool) (fun _ => ψ none p)
    (fun e _ ih i => eqvK P eqFuel kt k e.key ⟨hp, nx p, df⟩ fun r => ifB r (ψ (some (i, e.val)) p) (ih (Nat.succ i))) es i) from this 0
  induction es with
  | nil => exact fun i => h none
  | cons e es ih => exact fun i => .eqv fun r => .d_ifB (h _) (ih _)
theorem Det.mapBlk {m : AV} {N : κ → Bool} {ψ : Nat → List AEnt → Nat → κ → Bool} (h0 : Det pts N) (h : ∀ a b c, Det pts (ψ a b c)) : Det pts (fun p => onMapBlk m ⟨hp, nx p, df⟩ (N p) fun a b c => ψ a b c p) := by
  unfold onMapBlk
  exact .d_onMapN h0 fun b => .hGet fun A => .d_onMapB fun es c => h _ _ _

theorem Det.lookup {t : TypeId} {m k : AV} {ok : Bool} {ψ : AV → κ → Bool} (h : ∀ a, Det pts (ψ a)) : Det pts (fun p => lookupK P t m k ok ⟨hp, nx p, df⟩ fun a => ψ a p) := by
  unfold lookupK
  with_reducible repeat' (first | exact .fls | exact h _ | exact h _ _ | exact h _ _ _ | (refine .d_ifB ?_ ?_) | (refine .d_optK ?_) | (refine .d_optB ?_ ?_) | (refine .d_consB ?_ ?_) | (refine .d_natB ?_ ?_) | (refine .d_forceN ?_) | (refine .d_forceI ?_) | (refine .d_forceB ?_) | (refine .d_intK ?_) | (refine .d_onFunc ?_) | (refine .d_onTuple ?_) | (refine .d_onIface ?_) | (refine .d_onAgg ?_) | (refine .d_onStr ?_) | (refine .d_onSlice ?_) | (refine .d_onPtr ?_) | (refine .d_onBool ?_) | (refine .d_onInt ?_) | (refine .d_onMap ?_) | (refine .d_onSliceN ?_ ?_) | (refine .d_onMapN ?_ ?_) | (refine .d_onSliceE ?_ ?_ ?_) | (refine .d_onIfaceN ?_ ?_) | (refine .d_onCells ?_) | (refine .d_onMapB ?_) | (refine .d_onIterB ?_) | (refine .hGet ?_) | (refine .csGet ?_) | (refine .csSet ?_) | (refine .d_natK ?_) | (refine .mapBlk ?_ ?_) | (refine .find ?_) | intro _)
theorem Det.lastN {l : List Nat} {ψ : Nat → κ → Bool} (h : ∀ a, Det pts (ψ a)) : Det pts (fun p => entryK.lastN l fun a => ψ a p) := by
  unfold entryK.lastN
  induction l with
  | nil => exact .fls
  | cons x r ih => exact .d_consB (h x) fun _ _ => ih
theorem Det.entry {it : AV} {ψ : AV → κ → Bool} (h : ∀ a, Det pts (ψ a)) : Det pts (fun p => entryK it ⟨hp, nx p, df⟩ fun a => ψ a p) := by
  unfold entryK
  refine .d_onPtr fun r o => .d_ifB (.hGet fun A => .d_onIterB fun m _ seen last => .d_optK fun mb => .lastN fun stamp => .hGet fun B => .d_onMapB fun es clock => .d_ifB ?_ .fls) .fls
  induction es with
  | nil => exact .fls
  | cons e es ih => exact .d_ifB (h _) ih
theorem Det.len {t : TypeId} {v : AV} {ψ : AV → κ → Bool} (h : ∀ a, Det pts (ψ a)) : Det pts (fun p => lenK P t v ⟨hp, nx p, df⟩ fun a => ψ a p) := by
  unfold lenK
  refine .d_optB (.d_optB ?_ fun q => h _) fun q => h _
  cases v <;> with_reducible repeat' (first | exact .fls | exact h _ | exact h _ _ | exact h _ _ _ | (refine .d_ifB ?_ ?_) | (refine .d_optK ?_) | (refine .d_optB ?_ ?_) | (refine .d_consB ?_ ?_) | (refine .d_natB ?_ ?_) | (refine .d_forceN ?_) | (refine .d_forceI ?_) | (refine .d_forceB ?_) | (refine .d_intK ?_) | (refine .d_onFunc ?_) | (refine .d_onTuple ?_) | (refine .d_onIface ?_) | (refine .d_onAgg ?_) | (refine .d_onStr ?_) | (refine .d_onSlice ?_) | (refine .d_onPtr ?_) | (refine .d_onBool ?_) | (refine .d_onInt ?_) | (refine .d_onMap ?_) | (refine .d_onSliceN ?_ ?_) | (refine .d_onMapN ?_ ?_) | (refine .d_onSliceE ?_ ?_ ?_) | (refine .d_onIfaceN ?_ ?_) | (refine .d_onCells ?_) | (refine .d_onMapB ?_) | (refine .d_onIterB ?_) | (refine .hGet ?_) | (refine .csGet ?_) | (refine .csSet ?_) | (refine .d_natK ?_) | intro _)
theorem Det.cap {t : TypeId} {v : AV} {ψ : AV → κ → Bool} (h : ∀ a, Det pts (ψ a)) : Det pts (fun p => capK P t v fun a => ψ a p) := by
  unfold capK
  with_reducible repeat' (first | exact .fls | exact h _ | exact h _ _ | exact h _ _ _ | (refine .d_ifB ?_ ?_) | (refine .d_optK ?_) | (refine .d_optB ?_ ?_) | (refine .d_consB ?_ ?_) | (refine .d_natB ?_ ?_) | (refine .d_forceN ?_) | (refine .d_forceI ?_) | (refine .d_forceB ?_) | (refine .d_intK ?_) | (refine .d_onFunc ?_) | (refine .d_onTuple ?_) | (refine .d_onIface ?_) | (refine .d_onAgg ?_) | (refine .d_onStr ?_) | (refine .d_onSlice ?_) | (refine .d_onPtr ?_) | (refine .d_onBool ?_) | (refine .d_onInt ?_) | (refine .d_onMap ?_) | (refine .d_onSliceN ?_ ?_) | (refine .d_onMapN ?_ ?_) | (refine .d_onSliceE ?_ ?_ ?_) | (refine .d_onIfaceN ?_ ?_) | (refine .d_onCells ?_) | (refine .d_onMapB ?_) | (refine .d_onIterB ?_) | (refine .hGet ?_) | (refine .csGet ?_) | (refine .csSet ?_) | (refine .d_natK ?_) | intro _)
theorem Det.minMax {mx : Bool} {l : List AV} {ψ : AV → κ → Bool} (h : ∀ a, Det pts (ψ a)) : Det pts (fun p => minMaxK mx l fun a => ψ a p) := by
  unfold minMaxK foldMinMax
  refine .d_consB .fls fun v r => .d_onInt fun k x => ?_
  induction r generalizing x with
  | nil => exact h _
  | cons v r ih => exact .d_onInt fun _ y => .d_ifB (.d_ifB (ih _) (ih _)) (.d_ifB (ih _) (ih _))
theorem Det.ptrN' {v : AV} {N : κ → Bool} {ψ : Nat → Nat → κ → Bool} (h0 : Det pts N) (h : ∀ a b, Det pts (ψ a b)) : Det pts (fun p => ptrN v (N p) fun a b => ψ a b p) := by
  cases v <;> first | exact .fls | exact h0 | exact h _ _

/-! ### Operations -/
theorem alloc_det {op : Op} {fr : Fr} {ψ : ABlk → (Nat → AV) → κ → Bool} (h : ∀ a b, Det pts (ψ a b)) : Det pts (fun p => allocOf P op fr fun a b => ψ a b p) := by
  cases op with
  | alloc t => exact Det.d_optK (o := zeroV P t) (ψ := fun z p => rowK t (cellsOf z) fun A => ψ A (fun b => .ptr b 0) p) fun z => .row fun A => h _ _
  | box t x => exact Det.d_opd (x := x) (ψ := fun v p => rowK t (cellsOf v) fun A => ψ A (fun b => .ptr b 0) p) fun v => .row fun A => h _ _
  | buildSlice t n ps =>
    refine Det.parts (l := ps.toList) (ψ := fun l p => buildSliceK P t n l fun a b => ψ a b p) fun l => ?_
    unfold buildSliceK
    exact .d_optK fun q => .d_ifB (.zeros fun z => .fillParts fun l => .row fun A => h _ _) .fls
  | makeMap t r =>
    refine Det.d_opdO (x := r) (ψ := fun r p => makeMapK P t r fun a b => ψ a b p) fun r => ?_
    unfold makeMapK
    exact .d_optB (h _ _) fun v => .d_onInt fun _ _ => .d_optK fun _ => h _ _
  | makeSlice t l c =>
    refine Det.d_opd (x := l) (ψ := fun l p => opd c fr fun c => makeSliceK P t l c fun a b => ψ a b p) fun l => Det.d_opd (ψ := fun c p => makeSliceK P t l c fun a b => ψ a b p) fun c => ?_
    unfold makeSliceK
    exact .d_natK fun l => .d_natK fun c => .d_ifB (.d_optK fun q => .d_ifB (.zeros fun z => .row fun A => h _ _) .fls) .fls
  | _ => exact .fls
theorem alloc_sng {op : Op} {fr : Fr} : (∀ K, allocOf P op fr K = false) ∨ ∃ A f, ∀ K, allocOf P op fr K = K A f := by
  have := alloc_det (P := P) (op := op) (fr := fr) (κ := ABlk → (Nat → AV) → Bool) (pts := fun φ => ∃ A f, φ = fun K => K A f) (ψ := fun A f K => K A f) (fun A f => .inr ⟨A, f, rfl⟩)
  rcases this with h | ⟨A, f, h⟩
  · exact .inl h
  · exact .inr ⟨A, f, fun K => congrFun h K⟩
end

section
variable {P : Program}
/-- What only reads: at a state's blocks, whatever number is next. -/
theorem dispatch0_sng {H : CallH} {op : Op} (hk : kindOp P op = 1) (fr : Fr) (h : TL (Option ABlk) HL) (df : List ADef) :
    (∀ n K, dispatch0 P H op fr ⟨h, n, df⟩ K = false) ∨ ∃ v, ∀ n K, dispatch0 P H op fr ⟨h, n, df⟩ K = K v ⟨h, n, df⟩ := by
  suffices Det (κ := Nat × (AV → St → Bool)) (fun φ => ∃ v, φ = fun p => p.2 v ⟨h, p.1, df⟩) (fun p => dispatch0 P H op fr ⟨h, p.1, df⟩ p.2) by
    rcases this with q | ⟨v, q⟩
    · exact .inl fun n K => q (n, K)
    · exact .inr ⟨v, fun n K => congrFun q (n, K)⟩
  have leaf : ∀ v, Det (κ := Nat × (AV → St → Bool)) (fun φ => ∃ v, φ = fun p => p.2 v ⟨h, p.1, df⟩) ((fun v p => p.2 v ⟨h, p.1, df⟩) v) := fun v => .inr ⟨v, rfl⟩
  cases op with
  | move x => exact Det.d_opd leaf
  | assign x => exact Det.d_opd leaf
  | pick c a b => exact Det.d_opd (x := c) (ψ := fun c (p : Nat × (AV → St → Bool)) => onBool c fun c => ifB c (opd a fr fun v => p.2 v ⟨h, p.1, df⟩) (opd b fr fun v => p.2 v ⟨h, p.1, df⟩)) fun c => .d_onBool fun c => .d_ifB (.d_opd leaf) (.d_opd leaf)
  | build t ps => exact Det.parts (l := ps.toList) (ψ := fun l (p : Nat × (AV → St → Bool)) => buildK P t l fun v => p.2 v ⟨h, p.1, df⟩) fun l => .build leaf
  | load t x => exact Det.d_opd (x := x) (ψ := fun v (p : Nat × (AV → St → Bool)) => loadK P t v ⟨h, p.1, df⟩ p.2) fun v => .load leaf (Kp := fun p => p.2) fun p a => rfl
  | waits g => exact Det.waits leaf
  | nilCheck x => exact Det.d_opd (x := x) (ψ := fun v (p : Nat × (AV → St → Bool)) => nilCheckK P v fun v => p.2 v ⟨h, p.1, df⟩) fun v => .nilCheck leaf
  | binOp o t x y z => exact Det.d_opd (x := x) (ψ := fun a (p : Nat × (AV → St → Bool)) => opd y fr fun b => binK P o t x y a b ⟨h, p.1, df⟩ fun v => p.2 v ⟨h, p.1, df⟩) fun a => Det.d_opd (ψ := fun b (p : Nat × (AV → St → Bool)) => binK P o t x y a b ⟨h, p.1, df⟩ fun v => p.2 v ⟨h, p.1, df⟩) fun b => .bin leaf
  | unOp o t x => exact Det.d_opd (x := x) (ψ := fun v (p : Nat × (AV → St → Bool)) => unK o v fun v => p.2 v ⟨h, p.1, df⟩) fun v => .un leaf
  | sliceToArrayPointer d x => exact Det.d_opd (x := x) (ψ := fun v (p : Nat × (AV → St → Bool)) => s2apK P d v fun v => p.2 v ⟨h, p.1, df⟩) fun v => .s2ap leaf
  | makeInterface t x => exact Det.d_opd (x := x) (ψ := fun v (p : Nat × (AV → St → Bool)) => makeInterfaceK P t v fun v => p.2 v ⟨h, p.1, df⟩) fun v => .makeInterface leaf
  | makeFunc fn a b => exact Det.band (b := Fn.rec (fun _ => true) (fun _ => true) (fun _ _ => true) (fun _ _ _ _ => true) (fun _ => false) fn) <| Det.d_opds (l := a.toList) (ψ := fun a (p : Nat × (AV → St → Bool)) => opds b.toList fr fun b => p.2 (.func fn a b) ⟨h, p.1, df⟩) fun a => Det.d_opds (ψ := fun b (p : Nat × (AV → St → Bool)) => p.2 (.func fn a b) ⟨h, p.1, df⟩) fun b => leaf _
  | slice t x lo hi mx => exact Det.d_opd (x := x) (ψ := fun v (p : Nat × (AV → St → Bool)) => opdO lo fr fun lo => opdO hi fr fun hi => opdO mx fr fun mx => widenK P t v hi ⟨h, p.1, df⟩ fun v => sliceK P t v lo hi mx fun v => p.2 v ⟨h, p.1, df⟩) fun v => Det.d_opdO (ψ := fun lo (p : Nat × (AV → St → Bool)) => opdO hi fr fun hi => opdO mx fr fun mx => widenK P t v hi ⟨h, p.1, df⟩ fun v => sliceK P t v lo hi mx fun v => p.2 v ⟨h, p.1, df⟩) fun lo => Det.d_opdO (ψ := fun hi (p : Nat × (AV → St → Bool)) => opdO mx fr fun mx => widenK P t v hi ⟨h, p.1, df⟩ fun v => sliceK P t v lo hi mx fun v => p.2 v ⟨h, p.1, df⟩) fun hi => Det.d_opdO (ψ := fun mx (p : Nat × (AV → St → Bool)) => widenK P t v hi ⟨h, p.1, df⟩ fun v => sliceK P t v lo hi mx fun v => p.2 v ⟨h, p.1, df⟩) fun mx => .widen fun v => .slice leaf
  | fieldAddr t x f => exact Det.d_opd (x := x) (ψ := fun v (p : Nat × (AV → St → Bool)) => fieldAddrK P t v f fun v => p.2 v ⟨h, p.1, df⟩) fun v => .fieldAddr leaf
  | field t x f => exact Det.d_opd (x := x) (ψ := fun v (p : Nat × (AV → St → Bool)) => fieldK P t v f fun v => p.2 v ⟨h, p.1, df⟩) fun v => .field leaf
  | indexAddr t x i => exact Det.d_opd (x := x) (ψ := fun v (p : Nat × (AV → St → Bool)) => opd i fr fun i => indexAddrK P t v i fun v => p.2 v ⟨h, p.1, df⟩) fun v => Det.d_opd (ψ := fun i (p : Nat × (AV → St → Bool)) => indexAddrK P t v i fun v => p.2 v ⟨h, p.1, df⟩) fun i => .indexAddr leaf
  | index t x i => exact Det.d_opd (x := x) (ψ := fun v (p : Nat × (AV → St → Bool)) => opd i fr fun i => indexK P t v i fun v => p.2 v ⟨h, p.1, df⟩) fun v => Det.d_opd (ψ := fun i (p : Nat × (AV → St → Bool)) => indexK P t v i fun v => p.2 v ⟨h, p.1, df⟩) fun i => .index leaf
  | lookup t x i ok => exact Det.d_opd (x := x) (ψ := fun v (p : Nat × (AV → St → Bool)) => opd i fr fun i => lookupK P t v i ok ⟨h, p.1, df⟩ fun v => p.2 v ⟨h, p.1, df⟩) fun v => Det.d_opd (ψ := fun i (p : Nat × (AV → St → Bool)) => lookupK P t v i ok ⟨h, p.1, df⟩ fun v => p.2 v ⟨h, p.1, df⟩) fun i => .lookup leaf
  | entry it => exact Det.d_opd (x := it) (ψ := fun v (p : Nat × (AV → St → Bool)) => entryK v ⟨h, p.1, df⟩ fun v => p.2 v ⟨h, p.1, df⟩) fun v => .entry leaf
  | typeAssert x t a ok => exact Det.d_opd (x := x) (ψ := fun v (p : Nat × (AV → St → Bool)) => typeAssertK P v a ok fun v => p.2 v ⟨h, p.1, df⟩) fun v => .typeAssert leaf
  | extract x i => exact Det.d_opd (x := x) (ψ := fun v (p : Nat × (AV → St → Bool)) => extractK v i fun v => p.2 v ⟨h, p.1, df⟩) fun v => .extract leaf
  | convert s d x =>
    refine Det.d_opd (x := x) (ψ := fun v (p : Nat × (AV → St → Bool)) => convK P s d v ⟨h, p.1, df⟩ p.2) fun v => ?_
    unfold convK
    cases hc : convOf P s d with
    | none => exact .fls
    | some q =>
      cases q with
      | bytes e => simp [kindOp, hc] at hk
      | int k => exact Det.d_onInt (v := v) (ψ := fun _ n (p : Nat × (AV → St → Bool)) => intK k n fun r => p.2 r ⟨h, p.1, df⟩) fun _ n => .d_intK leaf
      | same => exact Det.d_onStr (v := v) (ψ := fun _ _ (p : Nat × (AV → St → Bool)) => p.2 v ⟨h, p.1, df⟩) fun _ _ => leaf _
      | str => exact Det.readSl (v := v) (ψ := fun l n (p : Nat × (AV → St → Bool)) => packCellsK l fun r => p.2 (.str n r) ⟨h, p.1, df⟩) fun l n => .pack fun r => leaf _
      | p2u => exact Det.ptrN' (v := v) (N := fun (p : Nat × (AV → St → Bool)) => p.2 v ⟨h, p.1, df⟩) (ψ := fun b o (p : Nat × (AV → St → Bool)) => hGetK b ⟨h, p.1, df⟩ fun A => onCells A fun _ n _ _ _ _ => ifB (Nat.ble (Nat.succ o) n) (p.2 v ⟨h, p.1, df⟩) false) (leaf _) fun b o => .hGet fun A => .d_onCells fun _ n _ _ _ _ => .d_ifB (leaf _) .fls
      | u2p u => exact Det.ptrN' (v := v) (N := fun (p : Nat × (AV → St → Bool)) => p.2 v ⟨h, p.1, df⟩) (ψ := fun b o (p : Nat × (AV → St → Bool)) => hGetK b ⟨h, p.1, df⟩ fun A => onCells A fun _ n e op _ _ => ifB op false (ifB (Go.liesAt P P.depth e (Nat.div n (P.cellsOf e)) o u 1) (p.2 v ⟨h, p.1, df⟩) false)) (leaf _) fun b o => .hGet fun A => .d_onCells fun _ n e op _ _ => .d_ifB .fls (.d_ifB (leaf _) .fls)
  | call c =>
    obtain ⟨callee, args, tys⟩ := c
    cases callee with
    | builtin b =>
      refine Det.d_opds (l := args.toList) (ψ := fun args (p : Nat × (AV → St → Bool)) => builtinK P b tys.toList args ⟨h, p.1, df⟩ p.2) fun l => ?_
      cases b with
      | cap => exact Det.d_consB (l := l) (ψ := fun a r (p : Nat × (AV → St → Bool)) => consB r (optK (fun t => capK P t a fun r => p.2 r ⟨h, p.1, df⟩) tys.toList[0]?) fun _ _ => false) .fls fun a r => .d_consB (.d_optK fun t => .cap leaf) fun _ _ => .fls
      | len => exact Det.d_consB (l := l) (ψ := fun a r (p : Nat × (AV → St → Bool)) => consB r (optK (fun t => lenK P t a ⟨h, p.1, df⟩ fun r => p.2 r ⟨h, p.1, df⟩) tys.toList[0]?) fun _ _ => false) .fls fun a r => .d_consB (.d_optK fun t => .len leaf) fun _ _ => .fls
      | max => exact Det.minMax (mx := true) (l := l) leaf
      | min => exact Det.minMax (mx := false) (l := l) leaf
      | _ => simp [kindOp] at hk
    | value f => simp [kindOp] at hk
    | invoke r name => simp [kindOp] at hk
  | _ => simp [kindOp] at hk
theorem dispatch_sng {H : CallH} {op : Op} (hk : kindOp P op = 1) (fr : Fr) (h : TL (Option ABlk) HL) (df : List ADef) :
    (∀ n K, dispatch P H op fr ⟨h, n, df⟩ K = false) ∨ ∃ v, ∀ n K, dispatch P H op fr ⟨h, n, df⟩ K = K v ⟨h, n, df⟩ := by
  unfold dispatch
  cases hc : H.orc op fr with
  | none => exact dispatch0_sng hk fr h df
  | some v => exact .inr ⟨v, fun n K => rfl⟩
end
end Go.Ev
/- The evaluator, part 32: what a fit plan says; values spelled alike. -/
namespace Go.Ev

theorem hasBit_eq {m i : Nat} : hasBit m i = m.testBit i := by
  unfold hasBit
  rw [Nat.testBit_eq_decide_div_mod_eq]
  show Nat.beq (m / 2 ^ i % 2) 1 = _
  rw [Bool.eq_iff_iff, Nat.beq_eq, decide_eq_true_iff]
theorem land_sub {m d : Nat} (h : Nat.beq (Nat.land m d) m = true) {j : Nat} (hj : m.testBit j = true) : d.testBit j = true := by
  have h1 : m &&& d = m := Nat.eq_of_beq_eq_true h
  rw [← h1, Nat.testBit_and] at hj
  simp at hj
  exact hj.2
theorem testBit_add {d i j : Nat} : (Nat.lor d (Nat.pow 2 i)).testBit j = (d.testBit j || decide (i = j)) := by
  show (d ||| 2 ^ i).testBit j = _
  rw [Nat.testBit_or, Nat.testBit_two_pow]

/-! ### Masks -/
theorem maskOf_bit {es : List Edge} {ms : List Nat} {j : Nat} : (maskOf es ms).testBit j = true ↔ ∃ e ∈ es, bindsB e = true ∧ (j = e.on ∨ (ms.getD e.on 0).testBit j = true) := by
  induction es with
  | nil => simp [maskOf]
  | cons e es ih =>
    have h : maskOf (e :: es) ms = cond (bindsB e) (Nat.lor (Nat.lor (Nat.pow 2 e.on) (ms.getD e.on 0)) (maskOf es ms)) (maskOf es ms) := rfl
    rw [h]
    cases hb : bindsB e with
    | false =>
      rw [cond_false, ih]
      constructor
      · rintro ⟨x, h1, h2⟩; exact ⟨x, List.mem_cons_of_mem _ h1, h2⟩
      · rintro ⟨x, h1, h2⟩
        rcases List.mem_cons.1 h1 with rfl | h1
        · rw [hb] at h2; cases h2.1
        · exact ⟨x, h1, h2⟩
    | true =>
      rw [cond_true]
      show ((2 ^ e.on ||| ms.getD e.on 0) ||| maskOf es ms).testBit j = true ↔ _
      rw [Nat.testBit_or, Nat.testBit_or, Nat.testBit_two_pow]
      simp only [Bool.or_eq_true, decide_eq_true_iff, ih]
      constructor
      · rintro ((h1 | h1) | ⟨x, h1, h2⟩)
        · exact ⟨e, by simp, hb, .inl h1.symm⟩
        · exact ⟨e, by simp, hb, .inr h1⟩
        · exact ⟨x, List.mem_cons_of_mem _ h1, h2⟩
      · rintro ⟨x, h1, h2, h3⟩
        rcases List.mem_cons.1 h1 with rfl | h1
        · exact .inl (h3.imp Eq.symm id)
        · exact .inr ⟨x, h1, h2, h3⟩
theorem forceL_eq {n : Nat} {K : Nat → List Nat} : masksFrom.forceL n K = K n := by cases n <;> rfl
theorem masksFrom_spec : ∀ (l : List Oper) (ms : List Nat), (∃ t, masksFrom l ms = ms ++ t) ∧ ∀ (k : Nat) o, l[k]? = some o → (masksFrom l ms)[ms.length + k]? = some (maskOf o.after.toList ((masksFrom l ms).take (ms.length + k)))
  | [], ms => ⟨⟨[], by simp [masksFrom]⟩, fun k o h => by simp at h⟩
  | o :: l, ms => by
    have h : masksFrom (o :: l) ms = masksFrom l (ms ++ [maskOf o.after.toList ms]) := forceL_eq (K := fun m => masksFrom l (ms ++ [m]))
    obtain ⟨⟨t, ht⟩, h2⟩ := masksFrom_spec l (ms ++ [maskOf o.after.toList ms])
    rw [h]
    refine ⟨⟨maskOf o.after.toList ms :: t, by rw [ht]; simp⟩, fun k o' hk => ?_⟩
    cases k with
    | zero =>
      simp at hk; subst hk
      rw [ht]; simp
    | succ k =>
      have := h2 k o' (by simpa using hk)
      rw [List.length_append, List.length_singleton] at this
      rw [show ms.length + (k + 1) = ms.length + 1 + k by omega]
      exact this
theorem masks_at {ops : List Oper} {k : Nat} {o : Oper} (h : ops[k]? = some o) : (masksFrom ops []).getD k 0 = maskOf o.after.toList ((masksFrom ops []).take k) := by
  have := (masksFrom_spec ops []).2 k o h
  simp only [List.length_nil, Nat.zero_add] at this
  rw [List.getD_eq_getElem?_getD, this]; rfl

section
variable {P : Program}
theorem stepsOf_mem : ∀ (l : List Oper) (i : Nat) (ms : List Nat) (s : PStep),
    s ∈ List.rec (motive := fun _ => Nat → List Nat → List PStep) (fun _ _ => []) (fun o _ ih i ms => ⟨i, o, kindOp P o.op, ms.headD 0⟩ :: ih (Nat.succ i) ms.tail) l i ms →
    ∃ k, s.i = i + k ∧ l[k]? = some s.o ∧ s.kind = kindOp P s.o.op ∧ s.mask = ms.getD k 0
  | [], _, _, _, h => by cases h
  | o :: l, i, ms, s, h => by
    rcases List.mem_cons.1 h with rfl | h
    · exact ⟨0, rfl, rfl, rfl, by cases ms <;> rfl⟩
    · obtain ⟨k, h1, h2, h3, h4⟩ := stepsOf_mem l (Nat.succ i) ms.tail s h
      refine ⟨k + 1, by rw [h1]; omega, by simpa using h2, h3, ?_⟩
      rw [h4]
      cases ms <;> simp [List.getD_eq_getElem?_getD]

theorem orderFrom_mem : ∀ (fuel : Nat) (left : List PStep) (done : Nat) (s : PStep), s ∈ orderFrom fuel left done → s ∈ left
  | 0, _, _, _, h => by cases h
  | fuel + 1, left, done, s, h => by
    have e : orderFrom (fuel + 1) left done = (match (generalizing := false) left.filter (fun s => (! Nat.beq s.kind 3) && Nat.beq (Nat.land s.mask done) s.mask) with
      | [] => match (generalizing := false) left with
        | [] => []
        | _ :: _ => match (generalizing := false) left.filter (fun s => Nat.beq s.kind 3) with
          | [] => []
          | c :: _ => c :: orderFrom fuel (left.filter fun s => ! Nat.beq s.i c.i) (Nat.lor done (Nat.pow 2 c.i))
      | s :: _ => s :: orderFrom fuel (left.filter fun r => ! Nat.beq r.i s.i) (Nat.lor done (Nat.pow 2 s.i))) := rfl
    rw [e] at h
    split at h
    · split at h
      · cases h
      · split at h
        · cases h
        · rename_i c r hc
          rcases List.mem_cons.1 h with rfl | h
          · exact (List.mem_filter.1 (hc ▸ List.mem_cons_self : s ∈ List.filter _ _)).1
          · exact (List.mem_filter.1 (orderFrom_mem fuel _ _ s h)).1
    · rename_i c r hc
      rcases List.mem_cons.1 h with rfl | h
      · have hm : s ∈ left.filter (fun s => (! Nat.beq s.kind 3) && Nat.beq (Nat.land s.mask done) s.mask) := by rw [hc]; simp
        exact (List.mem_filter.1 hm).1
      · exact (List.mem_filter.1 (orderFrom_mem fuel _ _ s h)).1

/-- What planOk's walk over a plan shows. -/
theorem planGo : ∀ (ops : List Oper) (pl : List PStep) (done : Nat), List.rec (motive := fun _ => Nat → Bool) (fun done => Nat.beq done (Nat.sub (Nat.pow 2 (lenL ops)) 1))
    (fun s r ih done => (! hasBit done s.i) && (Nat.beq (Nat.land s.mask done) s.mask) && (match ops[s.i]? with | some _ => true | none => false) &&
      (cond (Nat.beq s.kind 3) (r.all fun q => hasBit q.mask s.i) true) && ih (Nat.lor done (Nat.pow 2 s.i))) pl done = true →
    (∀ s ∈ pl, done.testBit s.i = false) ∧ pl.Pairwise (fun a b => a.i ≠ b.i) ∧
    (∀ A s B, pl = A ++ s :: B → ∀ j, s.mask.testBit j = true → done.testBit j = true ∨ ∃ q ∈ A, q.i = j) ∧
    (∀ A s B, pl = A ++ s :: B → s.kind = 3 → ∀ q ∈ B, q.mask.testBit s.i = true) ∧
    (∀ j, j < ops.length → done.testBit j = true ∨ ∃ q ∈ pl, q.i = j)
  | ops, [], done, h => by
    have h : Nat.beq done (Nat.sub (Nat.pow 2 (lenL ops)) 1) = true := h
    have h1 : done = 2 ^ ops.length - 1 := by have := Nat.eq_of_beq_eq_true h; rwa [lenL_eq] at this
    refine ⟨by simp, by simp, fun A s B h => by simp at h, fun A s B h => by simp at h, fun j hj => .inl ?_⟩
    rw [h1, Nat.testBit_two_pow_sub_one]; simpa using hj
  | ops, s :: r, done, h => by
    have h : ((! hasBit done s.i) && (Nat.beq (Nat.land s.mask done) s.mask) && (match ops[s.i]? with | some _ => true | none => false) &&
      (cond (Nat.beq s.kind 3) (r.all fun q => hasBit q.mask s.i) true) && List.rec (motive := fun _ => Nat → Bool) (fun done => Nat.beq done (Nat.sub (Nat.pow 2 (lenL ops)) 1))
    (fun s r ih done => (! hasBit done s.i) && (Nat.beq (Nat.land s.mask done) s.mask) && (match ops[s.i]? with | some _ => true | none => false) &&
      (cond (Nat.beq s.kind 3) (r.all fun q => hasBit q.mask s.i) true) && ih (Nat.lor done (Nat.pow 2 s.i))) r (Nat.lor done (Nat.pow 2 s.i))) = true := h
    rw [Bool.and_eq_true, Bool.and_eq_true, Bool.and_eq_true, Bool.and_eq_true] at h
    obtain ⟨⟨⟨⟨h1, h2⟩, _⟩, h4⟩, h5⟩ := h
    obtain ⟨g1, g2, g3, g4, g5⟩ := planGo ops r _ h5
    rw [hasBit_eq] at h1
    have h1 : done.testBit s.i = false := by simpa using h1
    have hne : ∀ q ∈ r, done.testBit q.i = false ∧ s.i ≠ q.i := fun q hq => by
      have := g1 q hq
      rw [testBit_add] at this
      simpa using this
    refine ⟨fun q hq => ?_, List.pairwise_cons.2 ⟨fun q hq => (hne q hq).2, g2⟩, fun A q B hq j hj => ?_, fun A q B hq hk => ?_, fun j hj => ?_⟩
    · rcases List.mem_cons.1 hq with rfl | hq
      · exact h1
      · exact (hne q hq).1
    · cases A with
      | nil => simp at hq; obtain ⟨rfl, rfl⟩ := hq; exact .inl (land_sub h2 hj)
      | cons a A =>
        simp at hq; obtain ⟨rfl, rfl⟩ := hq
        rcases g3 A q B rfl j hj with x | ⟨y, hy, hyj⟩
        · rw [testBit_add] at x
          simp at x
          rcases x with x | x
          · exact .inl x
          · exact .inr ⟨s, by simp, x⟩
        · exact .inr ⟨y, by simp [hy], hyj⟩
    · cases A with
      | nil =>
        simp at hq; obtain ⟨rfl, rfl⟩ := hq
        intro q hq
        have hb : Nat.beq s.kind 3 = true := by rw [hk]; rfl
        rw [hb, cond_true, List.all_eq_true] at h4
        have := h4 q hq
        rwa [hasBit_eq] at this
      | cons a A =>
        simp at hq; obtain ⟨rfl, rfl⟩ := hq
        exact g4 A q B rfl hk
    · rcases g5 j hj with x | ⟨y, hy, hyj⟩
      · rw [testBit_add] at x
        simp at x
        rcases x with x | x
        · exact .inl x
        · exact .inr ⟨s, by simp, x⟩
      · exact .inr ⟨y, by simp [hy], hyj⟩

structure PlanFit (P : Program) (ops : List Oper) (pl : List PStep) : Prop where
  at_ : ∀ s ∈ pl, ops[s.i]? = some s.o ∧ s.kind = kindOp P s.o.op
  apart : pl.Pairwise (fun a b => a.i ≠ b.i)
  cover : ∀ j, j < ops.length → ∃ q ∈ pl, q.i = j
  pre : ∀ A s B, pl = A ++ s :: B → ∀ j, s.mask.testBit j = true → ∃ q ∈ A, q.i = j
  bar : ∀ A s B, pl = A ++ s :: B → s.kind = 3 → ∀ q ∈ B, q.mask.testBit s.i = true
  clo : ∀ s ∈ pl, ∀ j, s.mask.testBit j = true → ∃ e ∈ s.o.after.toList, bindsB e = true ∧ (j = e.on ∨ ∃ q ∈ pl, q.i = e.on ∧ q.mask.testBit j = true)
  dir : ∀ s ∈ pl, ∀ e ∈ s.o.after.toList, bindsB e = true → s.mask.testBit e.on = true
  grd : ∀ s ∈ pl, ∀ g, s.o.guard = some g → s.mask.testBit g.1 = true
  dst : ∀ s ∈ pl, ∀ q ∈ pl, s.i ≠ q.i → ∀ d, s.o.dst = some d → q.o.dst ≠ some d
  rw_ : ∀ s ∈ pl, ∀ q ∈ pl, s.i ≠ q.i → ∀ d, q.o.dst = some d → d ∈ tmpsOf s.o ops → s.mask.testBit q.i = true ∨ q.mask.testBit s.i = true

theorem planOf_fit {ops : List Oper} {pl : List PStep} (h : planOf P ops = some pl) : PlanFit P ops pl := by
  unfold planOf at h
  simp only at h
  generalize hpl : orderFrom (Nat.mul 2 (lenL ops)) (stepsOf P ops (masksFrom ops [])) 0 = pl' at h
  cases hok : planOk ops pl' with
  | false => rw [hok] at h; cases h
  | true =>
    rw [hok] at h; cases h
    unfold planOk at hok
    rw [Bool.and_eq_true, Bool.and_eq_true, Bool.and_eq_true, Bool.and_eq_true] at hok
    obtain ⟨⟨⟨⟨_, h2⟩, h3⟩, h4⟩, h5⟩ := hok
    obtain ⟨_, g2, g3, g4, g5⟩ := planGo ops pl 0 h2
    have hmem : ∀ s ∈ pl, ops[s.i]? = some s.o ∧ s.kind = kindOp P s.o.op ∧ s.mask = (masksFrom ops []).getD s.i 0 := fun s hs => by
      have hs2 : s ∈ stepsOf P ops (masksFrom ops []) := orderFrom_mem (Nat.mul 2 (lenL ops)) _ 0 s (by rw [hpl]; exact hs)
      obtain ⟨k, a, b, c, d⟩ := stepsOf_mem (P := P) ops 0 _ s hs2
      rw [Nat.zero_add] at a
      rw [a]; exact ⟨b, c, d⟩
    have hcov : ∀ j, j < ops.length → ∃ q ∈ pl, q.i = j := fun j hj => (g5 j hj).resolve_left (by simp)
    have hmask : ∀ s ∈ pl, s.mask = maskOf s.o.after.toList ((masksFrom ops []).take s.i) := fun s hs => by
      obtain ⟨a, _, c⟩ := hmem s hs
      rw [c, masks_at a]
    refine ⟨fun s hs => ⟨(hmem s hs).1, (hmem s hs).2.1⟩, g2, hcov, fun A s B hp j hj => (g3 A s B hp j hj).resolve_left (by simp), g4, fun s hs j hj => ?_, fun s hs e he hb => ?_, fun s hs g hg => ?_, fun s hs q hq hne d hd hd' => ?_, fun s hs q hq hne d hd hd' => ?_⟩
    · rw [hmask s hs] at hj
      obtain ⟨e, he, hb, hj⟩ := maskOf_bit.1 hj
      refine ⟨e, he, hb, hj.imp id fun hj => ?_⟩
      have hlt : e.on < s.i ∧ (masksFrom ops []).getD e.on 0 = ((masksFrom ops []).take s.i).getD e.on 0 := by
        rw [List.getD_eq_getElem?_getD] at hj
        by_cases q : e.on < s.i
        · refine ⟨q, ?_⟩
          rw [List.getD_eq_getElem?_getD, List.getD_eq_getElem?_getD, List.getElem?_take_of_lt q]
        · rw [List.getElem?_eq_none (by simp; omega)] at hj; simp at hj
      have hs' : s.i < ops.length := by
        obtain ⟨a, _⟩ := hmem s hs
        exact (List.getElem?_eq_some_iff.1 a).1
      obtain ⟨q, hq, hqi⟩ := hcov e.on (by omega)
      refine ⟨q, hq, hqi, ?_⟩
      rw [(hmem q hq).2.2, hqi, hlt.2]; exact hj
    · rw [hmask s hs]
      exact maskOf_bit.2 ⟨e, he, hb, .inl rfl⟩
    · have := List.all_eq_true.1 h4 s hs
      simp only [hg] at this
      rwa [hasBit_eq] at this
    · have := List.all_eq_true.1 (List.all_eq_true.1 h5 s hs) q hq
      have hb : Nat.beq s.i q.i = false := by
        cases hx : Nat.beq s.i q.i with
        | false => rfl
        | true => exact absurd (Nat.eq_of_beq_eq_true hx) hne
      rw [hb, Bool.false_or, Bool.and_eq_true] at this
      have h1 := this.1
      rw [hd, hd'] at h1
      have hbb : Nat.beq d d = true := by rw [Nat.beq_eq]
      simp [hbb] at h1
    · have := List.all_eq_true.1 (List.all_eq_true.1 h5 s hs) q hq
      have hb : Nat.beq s.i q.i = false := by
        cases hx : Nat.beq s.i q.i with
        | false => rfl
        | true => exact absurd (Nat.eq_of_beq_eq_true hx) hne
      rw [hb, Bool.false_or, Bool.and_eq_true] at this
      have h1 := this.2
      rw [hd] at h1
      simp only [Bool.or_eq_true, hasBit_eq] at h1
      rcases h1 with (h1 | h1) | h1
      · exfalso
        have : (tmpsOf s.o ops).any (fun t => Nat.beq t d) = true := List.any_eq_true.2 ⟨d, hd', by rw [Nat.beq_eq]⟩
        rw [this] at h1; cases h1
      · exact .inl h1
      · exact .inr h1
end

/-! ### Values spelled alike -/
theorem lEq_eq {ih : AV → AV → Bool} (hih : ∀ x y, ih x y = true → x = y) : ∀ (xs ys : List AV), List.rec (motive := fun _ => List AV → Bool) (fun ys => consB ys true fun _ _ => false)
          (fun x _ again ys => consB ys false fun y r => ifB (ih x y) (again r) false) xs ys = true → xs = ys
  | [], [], _ => rfl
  | [], _ :: _, h => nomatch (show false = true from h)
  | _ :: _, [], h => nomatch (show false = true from h)
  | x :: xs, y :: ys, h => by
    obtain ⟨h1, h2⟩ := ifB_iff.1 (show ifB (ih x y) _ false = true from h)
    rw [hih x y h1, lEq_eq hih xs ys h2]
theorem avEq_eq : ∀ (n : Nat) (x y : AV), avEq n x y = true → x = y
  | 0, _, _, h => nomatch (show false = true from h)
  | n + 1, x, y, h => by
    have ih := avEq_eq n
    unfold avEq at h
    simp only at h
    split at h
    · rename_i a b
      rw [ifB_eq] at h
      cases a <;> cases b <;> simp [ifB] at h <;> rfl
    · obtain ⟨h1, h2⟩ := ifB_iff.1 h
      rw [eqI_eq, decide_eq_true_iff] at h2
      rw [ikN_inj h1, h2]
    · obtain ⟨h1, h2⟩ := ifB_iff.1 h
      rw [Nat.eq_of_beq_eq_true h1, Nat.eq_of_beq_eq_true h2]
    · rw [Nat.eq_of_beq_eq_true h]
    · rfl
    · rfl
    · rfl
    · rfl
    · rfl
    · rfl
    · obtain ⟨h1, h2⟩ := ifB_iff.1 h
      rw [Nat.eq_of_beq_eq_true h1, Nat.eq_of_beq_eq_true h2]
    · rw [Nat.eq_of_beq_eq_true h]
    · obtain ⟨h1, h⟩ := ifB_iff.1 h
      obtain ⟨h2, h⟩ := ifB_iff.1 h
      obtain ⟨h3, h⟩ := ifB_iff.1 h
      rw [Nat.eq_of_beq_eq_true h1, Nat.eq_of_beq_eq_true h2, Nat.eq_of_beq_eq_true h3]
      split at h
      · rfl
      · rw [Nat.eq_of_beq_eq_true h]
      · cases h
    · obtain ⟨h1, h2⟩ := ifB_iff.1 h
      rw [Nat.eq_of_beq_eq_true h1, ih _ _ h2]
    · rw [lEq_eq ih _ _ h]
    · rw [lEq_eq ih _ _ h]
    · obtain ⟨h1, h⟩ := ifB_iff.1 h
      obtain ⟨h2, h3⟩ := ifB_iff.1 h
      rw [Nat.eq_of_beq_eq_true h1, lEq_eq ih _ _ h2, lEq_eq ih _ _ h3]
    · obtain ⟨h1, h⟩ := ifB_iff.1 h
      obtain ⟨h2, h3⟩ := ifB_iff.1 h
      rw [decide_eq_true_iff.1 h1, lEq_eq ih _ _ h2, lEq_eq ih _ _ h3]
    · cases h
end Go.Ev

/- The evaluator, part 33: worlds with blocks that are made but not yet laid; what is wanted, once for all. -/
namespace Go.Ev

theorem wantK_sng {all : List Oper} {o : Oper} {fr : Fr} : (∀ Y N, wantK all o fr Y N = false) ∨ (∀ Y N, wantK all o fr Y N = Y) ∨ (∀ Y N, wantK all o fr Y N = N) := by
  unfold wantK
  cases hg : o.guard with
  | none => exact .inr (.inl fun Y N => rfl)
  | some g =>
    simp only [optB_some, frGetK_eq]
    cases hd : dstOf all g.1 with
    | none => exact .inl fun Y N => rfl
    | some d =>
      have e1 : ∀ (F : Nat → Bool), optK F (some d) = F d := fun F => rfl
      simp only [e1]
      cases hv : (TL.get 2 d fr).join with
      | none => exact .inl fun Y N => rfl
      | some v =>
        have e2 : ∀ (F : AV → Bool), optK F (some v) = F v := fun F => rfl
        simp only [e2]
        obtain ⟨g1, g2⟩ := g
        cases v with
        | bool b =>
          cases b <;> cases g2 <;> first
            | exact .inr (.inl fun Y N => rfl)
            | exact .inr (.inr fun Y N => rfl)
        | tuple l => exact .inr (.inr fun Y N => rfl)
        | _ => exact .inl fun Y N => rfl

theorem kindOp_cases (P : Program) (op : Op) : kindOp P op = 1 ∨ kindOp P op = 2 ∨ kindOp P op = 3 := by
  unfold kindOp
  repeat' split
  all_goals first | exact .inl rfl | exact .inr (.inl rfl) | exact .inr (.inr rfl)

/-- What only one operation of those that make a block gives. -/
theorem allocOf_ok {P : Program} {e : Env} {w : World} {o : Oper} {fr : Fr} {a : Act} {K : ABlk → (Nat → AV) → Bool} (hg : ∀ g, g < 64 → e.blk g = some g) (ho : ∀ x ∈ o.op.operands, OOk e fr a x) (h : allocOf P o.op fr K = true) :
    ∃ A f ob x, K A f = true ∧ (execOp a.eval o).run P w = .ok (.value x) { w with heap := w.heap.push ob } ∧ (∀ b e', Env.Le e e' → BRel P e' b A ob) ∧ (∀ b e', Env.Le e e' → e'.blk b = some w.heap.size → VRel e' (f b) x) := by
  obtain ⟨dst, op, ty, pos, after, guard⟩ := o
  simp only at ho h
  have fin : ∀ {s : Sem Value} {A f}, K A f = true → NewOk P e w A f (s.run P w) → ∃ A f ob x, K A f = true ∧ ((do pure (.value (← s)) : Sem Next).run P w) = .ok (.value x) { w with heap := w.heap.push ob } ∧ (∀ b e', Env.Le e e' → BRel P e' b A ob) ∧ (∀ b e', Env.Le e e' → e'.blk b = some w.heap.size → VRel e' (f b) x) := by
    rintro s A f hk ⟨ob, x, h1, h2, h3⟩
    refine ⟨A, f, ob, x, hk, ?_, h2, h3⟩
    simp only [Sem.run_bind, h1, Result.andThen_ok, Sem.run_pure]
  cases op with
  | alloc t =>
    obtain ⟨A, f, hk, hn⟩ := allocK_ok (e := e) (w := w) (show allocK P t K = true from h)
    exact fin hk hn
  | box t x =>
    obtain ⟨v, hv, h1⟩ := opd_ok hg (ho x (by simp [Op.operands])) (show opd x fr (fun v => boxK t v K) = true from h)
    obtain ⟨A, f, hk, hn⟩ := boxK_ok (P := P) (w := w) h1 hv
    exact fin hk hn
  | buildSlice t n ps =>
    obtain ⟨vs, hv, h1⟩ := partsK_ok hg (fun x hx => ho x.2 (by simp only [Op.operands, List.mem_toArray, List.mem_map]; exact ⟨x, hx, rfl⟩)) (show partsK ps.toList fr (fun l => buildSliceK P t n l K) = true from h)
    have hm : (ps.map fun (i, x) => (i, a.eval x)).toList = ps.toList.map fun p => (p.1, a.eval p.2) := by simp
    obtain ⟨A, f, hk, hn⟩ := buildSliceK_ok (xs := ps.map fun (i, x) => (i, a.eval x)) (w := w) h1 (by rw [hm]; exact hv)
    exact fin hk hn
  | makeMap t r =>
    obtain ⟨v, hv, h1⟩ := opdO_ok hg (fun y hy => ho y (by subst hy; simp [Op.operands])) (show opdO r fr (fun r => makeMapK P t r K) = true from h)
    obtain ⟨A, f, hk, hn⟩ := makeMapK_ok (w := w) h1 hv
    exact fin hk hn
  | makeSlice t l c =>
    obtain ⟨u, hu, h1⟩ := opd_ok hg (ho l (by simp [Op.operands])) (show opd l fr (fun l => opd c fr fun c => makeSliceK P t l c K) = true from h)
    obtain ⟨v, hv, h2⟩ := opd_ok hg (ho c (by simp [Op.operands])) h1
    obtain ⟨A, f, hk, hn⟩ := makeSliceK_ok (w := w) h2 hu hv
    exact fin hk hn
  | _ => exact nomatch (show false = true from h)

section
variable {P : Program} {X : Fix} {e : Env} {σ : St} {w : World}

/-- An operation done, and what comes after it, with whatever frame. -/
theorem upon_raw {ro : Option Nat} {n : Nat} {o : Oper} {a : Act} {K : AV → St → Bool} {next : Act → World → Prop} {Q : Exit → Act → World → Prop} {r : Result Next}
    (h : OpOk P X e σ K r) (hd : DRel e σ.df a.defers)
    (hn : ∀ e' v σ' y (a' : Act) w', Env.Le e e' → WRel P X e' σ' w' → VRel e' v y → K v σ' = true → DRel e' σ'.df a'.defers → a'.tmps = a.tmps → next (a'.put o.dst y) w') (hp : ∀ c w', Pan P X e σ.df c w' → Q (.panic c) a w') : o.uponIn (wideR ro) n P a next Q r := by
  match r with
  | .ok (.value y) w' =>
    obtain ⟨v, e', σ', h1, h2, h3, h4, h5⟩ := h
    exact hn e' v σ' y a w' h1 h2 h3 h4 (by rw [h5]; exact hd.mono h1) rfl
  | .ok .skip w' =>
    obtain ⟨e', σ', h1, h2, h4, h5⟩ := h
    exact hn e' .undef σ' undef a w' h1 h2 ⟨[], rfl, rfl⟩ h4 (by rw [h5]; exact hd.mono h1) rfl
  | .ok (.defer d) w' =>
    obtain ⟨_, x, σ', h2, h4, h5, h6⟩ := h
    refine hn e .undef σ' undef { a with defers := d :: a.defers } w' (Env.Le.refl e) h2 ⟨[], rfl, rfl⟩ h4 ?_ rfl
    rw [h5]
    obtain ⟨d', ds, cap, args, r1, r2, r3, r4, r5⟩ := h6
    cases r4
    cases r5
    exact ⟨_, _, cap, args, r1, r2, r3, hd, rfl⟩
  | .ok (.enter f args) w' =>
    refine ⟨fun hh => absurd hh (by simp [wideR]), callsIn_wideR (Calls.mono h ?_)⟩
    intro en w'' hr
    cases en with
    | returned y =>
      obtain ⟨v, e', σ', h1, h2, h3, h4, h5⟩ := hr
      exact hn e' v σ' y a w'' h1 h2 h3 h4 (by rw [h5]; exact hd.mono h1) rfl
    | panicked c => exact hp c w'' hr
    | outgrown => exact hr.elim
  | .ok (.row _ _) _ => exact h.elim
  | .ok (.round l f tmps assign body) w' =>
    refine ⟨fun hh => absurd hh (by simp [wideR]), roundIn_wideR (RoundIn.mono h ?_)⟩
    intro en w'' hr
    cases en with
    | returned y =>
      obtain ⟨v, e', σ', h1, h2, h3, h4, h5⟩ := hr
      exact hn e' v σ' y a w'' h1 h2 h3 h4 (by rw [h5]; exact hd.mono h1) rfl
    | panicked c => exact hp c w'' hr
    | outgrown => exact hr.elim
  | .ok .recover _ => exact h.elim
  | .ok (.spawn _) _ => exact h.elim
  | .ok (.comm _ _ _) _ => exact h.elim
  | .ok .numGoroutine _ => exact h.elim
  | .ok .collect _ => exact h.elim
  | .ok (.watch _) _ => exact h.elim
  | .ok (.newcoro _ _) _ => exact h.elim
  | .halt (.panic x) w' => exact hp _ w' h
  | .halt .blocked _ => exact h.elim
  | .halt .waiting _ => exact h.elim
  | .halt (.exit _) _ => exact h.elim
  | .halt (.fatal _) _ => exact h.elim
  | .halt (.throw _) _ => exact h.elim
  | .halt .goexit _ => exact h.elim
  | .halt (.unsupported _) _ => exact h.elim
  | .halt (.stuck _) _ => exact h.elim

/-- What stays, seen with less of it fixed. -/
theorem WRel.swap {X' : Fix} (h : WRel P X e σ w) (hF : ∀ c, X'.F c → X.F c ∧ X'.H c = w.heap[c]?) (hR : ∀ b, X'.R b → X.R b) (h1 : X'.os = X.os) (h2 : X'.out = X.out) (h3 : X'.tape = X.tape) (h4 : X'.opq = X.opq := by rfl) : WRel P X' e σ w :=
  ⟨fun b A hb => let ⟨c, o, a, b, d, f⟩ := h.blk b A hb; ⟨c, o, a, b, d, fun hc => f (hF c hc).1⟩, h.inj, h.fresh, h.glob,
    fun c hc => ⟨(h.old c (hF c hc).1).1, (hF c hc).2.symm⟩, h.os.trans h1.symm, h.out.trans h2.symm, h.tape.trans h3.symm, fun b hb => h.res b (hR b hb), h.opq.trans h4.symm⟩

/-- With blocks of a list that float: made, not yet laid; or to be made yet. -/
def fixOf (X : Fix) (e : Env) (w : World) (D : Nat → Prop) (S : Alc → Prop) : Fix :=
  ⟨fun c => X.F c ∨ ∃ x, S x ∧ D x.i ∧ e.blk x.b = some c, fun c => w.heap[c]?, fun b => X.R b ∨ ∃ x, S x ∧ ¬ D x.i ∧ x.b = b, X.os, X.out, X.tape, X.opq, X.pan⟩

/-- A panic, with blocks that float: out of the region. -/
theorem Pan.unfloat {D : Nat → Prop} {S : Alc → Prop} {df : List ADef} {c : List PanicEntry} {w' : World} (hold : ∀ c, X.F c → w.heap[c]? = X.H c) (h : Pan P (fixOf X e w D S) e df c w') : Pan P X e df c w' := by
  obtain ⟨v, x, e', σ', g1, g2, g3, g4, g5, g6⟩ := h
  exact ⟨v, x, e', σ', g1, g2.swap (fun c hc => ⟨.inl hc, ((g2.old c (.inl hc)).2.trans (hold c hc)).symm⟩) (fun b hb => .inl hb) rfl rfl rfl, g3, g4, g5, g6⟩

theorem WRel.reserve {D : Nat → Prop} {S : Alc → Prop} (h : WRel P (fixOf X e w D S) e σ w) {x0 : Alc} (hx : x0.b = σ.nx) (hD : ¬ D x0.i) : WRel P (fixOf X e w D fun x => S x ∨ x = x0) e ⟨σ.h, σ.nx + 1, σ.df⟩ w := by
  have hF : ∀ c, (fixOf X e w D fun x => S x ∨ x = x0).F c → (fixOf X e w D S).F c := by
    rintro c (h1 | ⟨x, h1 | h1, h2, h3⟩)
    · exact .inl h1
    · exact .inr ⟨x, h1, h2, h3⟩
    · subst h1; exact absurd h2 hD
  refine ⟨fun b A hb => let ⟨c, o, a, b, d, f⟩ := h.blk b A hb; ⟨c, o, a, b, d, fun hc => f (hF c hc)⟩, h.inj, fun b hb => h.fresh b (Nat.le_of_succ_le hb), h.glob,
    fun c hc => ⟨(h.old c (hF c hc)).1, rfl⟩, h.os, h.out, h.tape, ?_, h.opq⟩
  have hres : ∀ b, (fixOf X e w D S).R b → b < σ.nx + 1 ∧ e.blk b = none ∧ e.cap b = none := fun b hb => ⟨Nat.lt_succ_of_lt (h.res b hb).1, (h.res b hb).2⟩
  rintro b (h1 | ⟨x, h1 | h1, h2, h3⟩)
  · exact hres b (.inl h1)
  · exact hres b (.inr ⟨x, h1, h2, h3⟩)
  · subst h1; subst h3
    obtain ⟨a1, a2, _⟩ := h.fresh x.b (Nat.le_of_eq hx.symm)
    exact ⟨by rw [hx]; exact Nat.lt_succ_self _, a1, a2⟩

theorem WRel.float {D D' : Nat → Prop} {S : Alc → Prop} (h : WRel P (fixOf X e w D S) e σ w) {x0 : Alc} {o : Obj} (hx : S x0) (hD : ¬ D x0.i) (hD' : ∀ j, D' j ↔ D j ∨ j = x0.i) (hi : ∀ y, S y → y.i = x0.i → y = x0) (hb : ∀ y, S y → y.b = x0.b → y = x0)
    (h64 : 64 ≤ x0.b) (hR : ¬ X.R x0.b) : WRel P (fixOf X (e.bind x0.b w.heap.size none) { w with heap := w.heap.push o } D' S) (e.bind x0.b w.heap.size none) σ { w with heap := w.heap.push o } := by
  obtain ⟨r1, r2, r3⟩ := h.res x0.b (.inr ⟨x0, hx, hD, rfl⟩)
  have hle := Env.le_bind (c := w.heap.size) (k := none) r2 r3
  have hne : ∀ j c, e.blk j = some c → j ≠ x0.b := by rintro j c hj rfl; rw [r2] at hj; cases hj
  have hfb : ∀ y, S y → D' y.i → ∀ c, (e.bind x0.b w.heap.size none).blk y.b = some c → (y = x0 ∧ c = w.heap.size) ∨ (D y.i ∧ e.blk y.b = some c) := by
    intro y hy hDy c hc
    by_cases q : y = x0
    · subst q; rw [Env.bind_blk] at hc; cases hc; exact .inl ⟨rfl, rfl⟩
    · rw [Env.bind_ne _ (fun hh => q (hb y hy hh))] at hc
      exact .inr ⟨((hD' _).1 hDy).resolve_right (fun hh => q (hi y hy hh)), hc⟩
  refine ⟨fun j A hj => ?_, fun j j' c A A' hj hj' hc hc' => ?_, fun j hj => ?_, fun g hg => ?_, ?_, h.os, h.out, h.tape, ?_, h.opq⟩
  · obtain ⟨c, o', q1, q2, q3, q4⟩ := h.blk j A hj
    have hlt := (Array.getElem?_eq_some_iff.1 q2).1
    refine ⟨c, o', hle.blk _ _ q1, ?_, q3.mono hle, ?_⟩
    · show (w.heap.push o)[c]? = _
      rw [Array.getElem?_push_lt hlt]; rw [← q2, Array.getElem?_eq_getElem hlt]
    · rintro (g | ⟨y, g1, g2, g3⟩)
      · exact q4 (.inl g)
      · rcases hfb y g1 g2 c g3 with ⟨_, rfl⟩ | ⟨k1, k2⟩
        · exact absurd hlt (Nat.lt_irrefl _)
        · exact q4 (.inr ⟨y, g1, k1, k2⟩)
  · obtain ⟨c1, _, q1, _⟩ := h.blk j A hj
    obtain ⟨c2, _, q2, _⟩ := h.blk j' A' hj'
    rw [Env.bind_ne _ (hne _ _ q1)] at hc
    rw [Env.bind_ne _ (hne _ _ q2)] at hc'
    exact h.inj j j' c A A' hj hj' hc hc'
  · obtain ⟨q1, q2, q3⟩ := h.fresh j hj
    have : j ≠ x0.b := by have : σ.nx ≤ j := hj; omega
    exact ⟨by rw [Env.bind_ne _ this]; exact q1, by simp [Env.bind, this, q2], q3⟩
  · rw [Env.bind_ne _ (by omega)]; exact h.glob g hg
  · have hsz : (w.heap.push o).size = w.heap.size + 1 := by simp
    rintro c (g | ⟨y, g1, g2, g3⟩)
    · have := (h.old c (.inl g)).1
      exact ⟨by show c < (w.heap.push o).size; omega, rfl⟩
    · rcases hfb y g1 g2 c g3 with ⟨_, rfl⟩ | ⟨k1, k2⟩
      · exact ⟨by show w.heap.size < (w.heap.push o).size; omega, rfl⟩
      · have := (h.old c (.inr ⟨y, g1, k1, k2⟩)).1
        exact ⟨by show c < (w.heap.push o).size; omega, rfl⟩
  · rintro b (g | ⟨y, g1, g2, rfl⟩)
    · obtain ⟨q1, q2, q3⟩ := h.res b (.inl g)
      have : b ≠ x0.b := by rintro rfl; exact hR g
      exact ⟨q1, by rw [Env.bind_ne _ this]; exact q2, by simp [Env.bind, this, q3]⟩
    · have hnD : ¬ D y.i := fun hh => g2 ((hD' _).2 (.inl hh))
      obtain ⟨q1, q2, q3⟩ := h.res y.b (.inr ⟨y, g1, hnD, rfl⟩)
      have : y.b ≠ x0.b := by intro hh; have := hb y g1 hh; subst this; exact g2 ((hD' _).2 (.inr rfl))
      exact ⟨q1, by rw [Env.bind_ne _ this]; exact q2, by simp [Env.bind, this, q3]⟩

theorem WRel.lay {D : Nat → Prop} {S : Alc → Prop} (h : WRel P (fixOf X e w D S) e σ w) {x0 : Alc} {c : Nat} {o : Obj} (hx : S x0) (hD : D x0.i) (hb : e.blk x0.b = some c) (ho : w.heap[c]? = some o) (hB : BRel P e x0.b x0.A o) (hF : ¬ X.F c)
    (hinj : ∀ y, S y → D y.i → y ≠ x0 → e.blk y.b ≠ some c) (hs : σ.slot x0.b) : WRel P (fixOf X e w D fun y => S y ∧ y ≠ x0) e (σ.put x0.b (some x0.A)) w := by
  have hsub : ∀ d, (fixOf X e w D fun y => S y ∧ y ≠ x0).F d → (fixOf X e w D S).F d := by
    rintro d (g | ⟨y, g1, g2, g3⟩)
    · exact .inl g
    · exact .inr ⟨y, g1.1, g2, g3⟩
  have hin : (fixOf X e w D S).F c := .inr ⟨x0, hx, hD, hb⟩
  refine ⟨fun j B hj => ?_, fun j j' d B B' hj hj' hd hd' => ?_, fun j hj => ?_, h.glob, fun d hd => ⟨(h.old d (hsub d hd)).1, rfl⟩, h.os, h.out, h.tape, ?_, h.opq⟩
  · rw [St.get_put hs] at hj
    by_cases q : x0.b = j
    · subst q; rw [if_pos rfl] at hj; cases hj
      refine ⟨c, o, hb, ho, hB, ?_⟩
      rintro (g | ⟨y, g1, g2, g3⟩)
      · exact hF g
      · exact hinj y g1.1 g2 g1.2 g3
    · rw [if_neg q] at hj
      obtain ⟨c', o', q1, q2, q3, q4⟩ := h.blk j B hj
      exact ⟨c', o', q1, q2, q3, fun hc => q4 (hsub _ hc)⟩
  · have lays : ∀ j B, σ.get j = some B → e.blk j ≠ some c := by
      intro j B hj hc
      obtain ⟨c', _, q1, _, _, q4⟩ := h.blk j B hj
      rw [hc] at q1; cases q1
      exact q4 hin
    rw [St.get_put hs] at hj hj'
    by_cases a1 : x0.b = j
    · by_cases a2 : x0.b = j'
      · exact a1.symm.trans a2
      · rw [if_neg a2] at hj'
        subst a1
        rw [hb] at hd; cases hd
        exact absurd hd' (lays _ _ hj')
    · rw [if_neg a1] at hj
      by_cases a2 : x0.b = j'
      · subst a2
        rw [hb] at hd'; cases hd'
        exact absurd hd (lays _ _ hj)
      · rw [if_neg a2] at hj'
        exact h.inj j j' d B B' hj hj' hd hd'
  · have hj : σ.nx ≤ j := hj
    obtain ⟨q1, q2, q3⟩ := h.fresh j hj
    refine ⟨q1, q2, ?_⟩
    rw [St.get_put hs, if_neg (by rintro rfl; rw [hb] at q1; cases q1)]
    exact q3
  · rintro b (g | ⟨y, g1, g2, g3⟩)
    · exact h.res b (.inl g)
    · exact h.res b (.inr ⟨y, g1.1, g2, g3⟩)

/-- What is said of floating blocks. -/
structure FloatOk (P : Program) (X : Fix) (e : Env) (w : World) (D : Nat → Prop) (S : Alc → Prop) : Prop where
  here : ∀ x, S x → D x.i → ∃ c o, e.blk x.b = some c ∧ w.heap[c]? = some o ∧ BRel P e x.b x.A o ∧ ¬ X.F c
  one : ∀ x y c, S x → S y → D x.i → D y.i → e.blk x.b = some c → e.blk y.b = some c → x = y
theorem FloatOk.sub {D : Nat → Prop} {S S' : Alc → Prop} (h : FloatOk P X e w D S) (hs : ∀ x, S' x → S x) : FloatOk P X e w D S' :=
  ⟨fun x hx => h.here x (hs x hx), fun x y c hx hy => h.one x y c (hs x hx) (hs y hy)⟩

theorem absorb_ok {D : Nat → Prop} {m : Nat} (hm : ∀ j, m.testBit j = true → D j) : ∀ (al : List Alc) {σ : St} {S : Alc → Prop} {K : List Alc → St → Bool}, (∀ x ∈ al, S x) → al.Pairwise (fun x y => x.b ≠ y.b) → FloatOk P X e w D S → WRel P (fixOf X e w D S) e σ w → absorbK m al σ K = true →
    ∃ σ', K (al.filter fun x => ! hasBit m x.i) σ' = true ∧ σ'.nx = σ.nx ∧ σ'.df = σ.df ∧ WRel P (fixOf X e w D fun x => S x ∧ ¬ (x ∈ al ∧ hasBit m x.i = true)) e σ' w ∧
    (∀ b A, σ.get b = some A → (∀ x ∈ al, hasBit m x.i = true → x.b ≠ b) → σ'.get b = some A) ∧ ∀ x ∈ al, hasBit m x.i = true → σ'.get x.b = some x.A
  | [], σ, S, K, _, _, _, hw, h => ⟨σ, h, rfl, rfl, hw.swap (fun c hc => ⟨by
      rcases hc with g | ⟨y, g1, g2⟩
      · exact .inl g
      · exact .inr ⟨y, g1.1, g2⟩, rfl⟩) (fun b hb => by
      rcases hb with g | ⟨y, g1, g2⟩
      · exact .inl g
      · exact .inr ⟨y, g1.1, g2⟩) rfl rfl rfl, fun _ _ h _ => h, fun x hx => absurd hx (by simp)⟩
  | a :: al, σ, S, K, hS, hnd, hf, hw, h => by
    have h0 : ifB (hasBit m a.i) (hSetK a.b (some a.A) σ fun σ => absorbK m al σ K) (absorbK m al σ fun r σ => K (a :: r) σ) = true := h
    obtain ⟨hap, hnd⟩ := List.pairwise_cons.1 hnd
    have ha : a ∉ al := fun hh => hap a hh rfl
    have conv : ∀ {σ' : St} {S1 : Alc → Prop}, (∀ x, (S x ∧ ¬ (x ∈ a :: al ∧ hasBit m x.i = true)) → S1 x ∧ ¬ (x ∈ al ∧ hasBit m x.i = true)) → WRel P (fixOf X e w D fun x => S1 x ∧ ¬ (x ∈ al ∧ hasBit m x.i = true)) e σ' w → WRel P (fixOf X e w D fun x => S x ∧ ¬ (x ∈ a :: al ∧ hasBit m x.i = true)) e σ' w := by
      intro σ' S1 hs hw
      refine hw.swap (fun c hc => ⟨?_, rfl⟩) (fun b hb => ?_) rfl rfl rfl
      · rcases hc with g | ⟨y, g1, g2⟩
        · exact .inl g
        · exact .inr ⟨y, hs y g1, g2⟩
      · rcases hb with g | ⟨y, g1, g2⟩
        · exact .inl g
        · exact .inr ⟨y, hs y g1, g2⟩
    cases hb : hasBit m a.i with
    | true =>
      rw [hb, ifB_true] at h0
      obtain ⟨hs, h1⟩ := hSetK_iff.1 h0
      have hDa : D a.i := hm _ (by rw [← hasBit_eq]; exact hb)
      obtain ⟨c, o, q1, q2, q3, q4⟩ := hf.here a (hS a (by simp)) hDa
      have hw1 := hw.lay (hS a (by simp)) hDa q1 q2 q3 q4 (fun y hy hDy hne hc => hne (hf.one y a c hy (hS a (by simp)) hDy hDa hc q1)) hs
      obtain ⟨σ', k1, k2, k3, k4, k5, k6⟩ := absorb_ok (K := K) hm al (S := fun y => S y ∧ y ≠ a) (fun x hx => ⟨hS x (by simp [hx]), fun hh => ha (hh ▸ hx)⟩) hnd (hf.sub fun x hx => hx.1) hw1 h1
      refine ⟨σ', by rw [List.filter_cons, hb]; exact k1, k2, k3, conv (fun x hx => ⟨⟨hx.1, fun hh => hx.2 ⟨by simp [hh], by rw [hh]; exact hb⟩⟩, fun hh => hx.2 ⟨by simp [hh.1], hh.2⟩⟩) k4, fun b A hg hne => k5 b A (by rw [St.get_put hs, if_neg (hne a (by simp) hb)]; exact hg) (fun x hx hbx => hne x (by simp [hx]) hbx), fun x hx hbx => ?_⟩
      rcases List.mem_cons.1 hx with rfl | hx
      · exact k5 _ _ (by rw [St.get_put hs, if_pos rfl]) (fun y hy _ hh => hap y hy hh.symm)
      · exact k6 x hx hbx
    | false =>
      rw [hb, ifB_false] at h0
      obtain ⟨σ', k1, k2, k3, k4, k5, k6⟩ := absorb_ok (K := fun r σ => K (a :: r) σ) hm al (fun x hx => hS x (by simp [hx])) hnd hf hw h0
      refine ⟨σ', by rw [List.filter_cons, hb]; exact k1, k2, k3, conv (fun x hx => ⟨hx.1, fun hh => hx.2 ⟨by simp [hh.1], hh.2⟩⟩) k4, fun b A hg hne => k5 b A hg (fun x hx hbx => hne x (by simp [hx]) hbx), fun x hx hbx => ?_⟩
      rcases List.mem_cons.1 hx with rfl | hx
      · rw [hb] at hbx; cases hbx
      · exact k6 x hx hbx


/-- What is laid for a read is taken up again. -/
theorem unlay_ok {D : Nat → Prop} {S S1 : Alc → Prop} {σ1 : St} (hw : WRel P (fixOf X e w D S1) e σ1 w) (hf : FloatOk P X e w D S1) (_hS1 : ∀ x, S1 x → S x) (hget : ∀ b A, σ.get b = some A → σ1.get b = some A ∧ ∀ x, S x → ¬ S1 x → x.b ≠ b)
    (hlaid : ∀ x, S x → ¬ S1 x → D x.i ∧ σ1.get x.b = some x.A) (hb : ∀ x y, S x → S y → x.b = y.b → x = y) (hnx : σ1.nx = σ.nx) : WRel P (fixOf X e w D S) e σ w ∧ FloatOk P X e w D S := by
  classical
  refine ⟨⟨fun b A hA => ?_, fun b b' c A A' h1 h2 h3 h4 => hw.inj b b' c A A' (hget b A h1).1 (hget b' A' h2).1 h3 h4, fun b hbn => ?_, hw.glob, fun c hc => ?_, hw.os, hw.out, hw.tape, fun b hR => ?_, hw.opq⟩, ⟨fun x hx hD => ?_, fun x y c hx hy hDx hDy h1 h2 => ?_⟩⟩
  · obtain ⟨c, o, q1, q2, q3, q4⟩ := hw.blk b A (hget b A hA).1
    refine ⟨c, o, q1, q2, q3, ?_⟩
    rintro (g | ⟨x, g1, g2, g3⟩)
    · exact q4 (.inl g)
    · by_cases hx : S1 x
      · exact q4 (.inr ⟨x, hx, g2, g3⟩)
      · exact (hget b A hA).2 x g1 hx (hw.inj x.b b c _ _ (hlaid x g1 hx).2 (hget b A hA).1 g3 q1)
  · obtain ⟨q1, q2, q3⟩ := hw.fresh b (by rw [hnx]; exact hbn)
    refine ⟨q1, q2, ?_⟩
    cases hg : σ.get b with
    | none => rfl
    | some A => rw [(hget b A hg).1] at q3; cases q3
  · rcases hc with g | ⟨x, g1, g2, g3⟩
    · exact hw.old c (.inl g)
    · by_cases hx : S1 x
      · exact hw.old c (.inr ⟨x, hx, g2, g3⟩)
      · obtain ⟨c', o, q1, q2, _⟩ := hw.blk x.b _ (hlaid x g1 hx).2
        rw [g3] at q1; cases q1
        exact ⟨(Array.getElem?_eq_some_iff.1 q2).1, rfl⟩
  · have hres : ∀ b, (fixOf X e w D S1).R b → b < σ.nx ∧ e.blk b = none ∧ e.cap b = none := fun b h => by rw [← hnx]; exact hw.res b h
    rcases hR with g | ⟨x, g1, g2, g3⟩
    · exact hres b (.inl g)
    · by_cases hx : S1 x
      · exact hres b (.inr ⟨x, hx, g2, g3⟩)
      · exact absurd (hlaid x g1 hx).1 g2
  · by_cases hx1 : S1 x
    · exact hf.here x hx1 hD
    · obtain ⟨c, o, q1, q2, q3, q4⟩ := hw.blk x.b _ (hlaid x hx hx1).2
      exact ⟨c, o, q1, q2, q3, fun g => q4 (.inl g)⟩
  · by_cases hx1 : S1 x <;> by_cases hy1 : S1 y
    · exact hf.one x y c hx1 hy1 hDx hDy h1 h2
    · obtain ⟨c', o, q1, q2, q3, q4⟩ := hw.blk y.b _ (hlaid y hy hy1).2
      rw [h2] at q1; cases q1
      exact absurd (.inr ⟨x, hx1, hDx, h1⟩) q4
    · obtain ⟨c', o, q1, q2, q3, q4⟩ := hw.blk x.b _ (hlaid x hx hx1).2
      rw [h1] at q1; cases q1
      exact absurd (.inr ⟨y, hy1, hDy, h2⟩) q4
    · exact hb x y hx hy (hw.inj x.b y.b c _ _ (hlaid x hx hx1).2 (hlaid y hy hy1).2 h1 h2)

theorem hSetK_sng {b : Nat} {A : Option ABlk} {h : TL (Option ABlk) HL} {df : List ADef} : (∀ n K, hSetK b A ⟨h, n, df⟩ K = false) ∨ ∀ n K, hSetK b A ⟨h, n, df⟩ K = K ((⟨h, n, df⟩ : St).put b A) := by
  classical
  by_cases hs : (⟨h, 0, df⟩ : St).slot b
  · refine .inr fun n K => ?_
    rw [Bool.eq_iff_iff, hSetK_iff]
    exact ⟨fun q => q.2, fun q => ⟨hs, q⟩⟩
  · refine .inl fun n K => ?_
    cases q : hSetK b A ⟨h, n, df⟩ K with
    | false => rfl
    | true => exact absurd (hSetK_iff.1 q).1 hs
theorem absorb_sng {m : Nat} : ∀ (al : List Alc) (h : TL (Option ABlk) HL) (df : List ADef), (∀ n K, absorbK m al ⟨h, n, df⟩ K = false) ∨ ∃ h', ∀ n K, absorbK m al ⟨h, n, df⟩ K = K (al.filter fun x => ! hasBit m x.i) ⟨h', n, df⟩
  | [], h, df => .inr ⟨h, fun _ _ => rfl⟩
  | a :: al, h, df => by
    have e1 : ∀ n K, absorbK m (a :: al) ⟨h, n, df⟩ K = ifB (hasBit m a.i) (hSetK a.b (some a.A) ⟨h, n, df⟩ fun σ => absorbK m al σ K) (absorbK m al ⟨h, n, df⟩ fun r σ => K (a :: r) σ) := fun _ _ => rfl
    cases hb : hasBit m a.i with
    | true =>
      have e2 : ∀ n K, absorbK m (a :: al) ⟨h, n, df⟩ K = hSetK a.b (some a.A) ⟨h, n, df⟩ fun σ => absorbK m al σ K := fun n K => by rw [e1, hb, ifB_true]
      have e3 : (a :: al).filter (fun x => ! hasBit m x.i) = al.filter (fun x => ! hasBit m x.i) := by rw [List.filter_cons, hb]; rfl
      rw [e3]
      rcases hSetK_sng (b := a.b) (A := some a.A) (h := h) (df := df) with z | z
      · exact .inl fun n K => by rw [e2]; exact z n _
      · rcases absorb_sng (m := m) al (TL.set HL a.b (some a.A) h) df with y | ⟨h', y⟩
        · exact .inl fun n K => by rw [e2, z]; exact y n K
        · exact .inr ⟨h', fun n K => by rw [e2, z]; exact y n K⟩
    | false =>
      have e2 : ∀ n K, absorbK m (a :: al) ⟨h, n, df⟩ K = absorbK m al ⟨h, n, df⟩ fun r σ => K (a :: r) σ := fun n K => by rw [e1, hb, ifB_false]
      have e3 : (a :: al).filter (fun x => ! hasBit m x.i) = a :: al.filter (fun x => ! hasBit m x.i) := by rw [List.filter_cons, hb]; rfl
      rw [e3]
      rcases absorb_sng (m := m) al h df with y | ⟨h', y⟩
      · exact .inl fun n K => by rw [e2]; exact y n _
      · exact .inr ⟨h', fun n K => by rw [e2]; exact y n _⟩

theorem layAll_ok {D : Nat → Prop} : ∀ (al : List Alc) {σ : St} {S : Alc → Prop} {K : St → Bool}, (∀ x ∈ al, S x ∧ D x.i) → al.Nodup → FloatOk P X e w D S → WRel P (fixOf X e w D S) e σ w → layAllK al σ K = true →
    ∃ σ', K σ' = true ∧ σ'.df = σ.df ∧ WRel P (fixOf X e w D fun x => S x ∧ x ∉ al) e σ' w
  | [], σ, S, K, _, _, _, hw, h => ⟨σ, h, rfl, hw.swap (fun c hc => ⟨by
      rcases hc with g | ⟨y, g1, g2⟩
      · exact .inl g
      · exact .inr ⟨y, g1.1, g2⟩, rfl⟩) (fun b hb => by
      rcases hb with g | ⟨y, g1, g2⟩
      · exact .inl g
      · exact .inr ⟨y, g1.1, g2⟩) rfl rfl rfl⟩
  | a :: al, σ, S, K, hS, hnd, hf, hw, h => by
    obtain ⟨ha, hnd⟩ := List.nodup_cons.1 hnd
    obtain ⟨hs, h1⟩ := hSetK_iff.1 (show hSetK a.b (some a.A) σ (fun σ => layAllK al σ K) = true from h)
    obtain ⟨hSa, hDa⟩ := hS a (by simp)
    obtain ⟨c, o, q1, q2, q3, q4⟩ := hf.here a hSa hDa
    have hw1 := hw.lay hSa hDa q1 q2 q3 q4 (fun y hy hDy hne hc => hne (hf.one y a c hy hSa hDy hDa hc q1)) hs
    obtain ⟨σ', k1, k2, k3⟩ := layAll_ok al (S := fun y => S y ∧ y ≠ a) (fun x hx => ⟨⟨(hS x (by simp [hx])).1, fun hh => ha (hh ▸ hx)⟩, (hS x (by simp [hx])).2⟩) hnd (hf.sub fun x hx => hx.1) hw1 h1
    refine ⟨σ', k1, k2, k3.swap (fun c hc => ⟨?_, rfl⟩) (fun b hb => ?_) rfl rfl rfl⟩
    · rcases hc with g | ⟨y, g1, g2⟩
      · exact .inl g
      · exact .inr ⟨y, ⟨⟨g1.1, fun hh => g1.2 (by simp [hh])⟩, fun hh => g1.2 (by simp [hh])⟩, g2⟩
    · rcases hb with g | ⟨y, g1, g2⟩
      · exact .inl g
      · exact .inr ⟨y, ⟨⟨g1.1, fun hh => g1.2 (by simp [hh])⟩, fun hh => g1.2 (by simp [hh])⟩, g2⟩
end
end Go.Ev

/- The evaluator, part 34: regions that draw their order: what stands between. -/
namespace Go.Ev

inductive Rec where
  | no
  | read (v : AV)
  | mk (A : ABlk) (f : Nat → AV) (b : Nat)
  | big (v : AV)
def Rec.val : Rec → AV
  | .no => .undef
  | .read v => v
  | .mk _ f b => f b
  | .big v => v
/-- A step of a plan that the evaluator has taken: the frame that it had, and what it gave. -/
structure Hs where
  s : PStep
  fr : Fr
  r : Rec

/-- What the evaluator's frame holds after these steps (the last one first). -/
def Full (fr0 : Fr) (hist : List Hs) (t : Nat) (v : AV) : Prop :=
  (∃ h ∈ hist, h.s.o.dst = some t ∧ h.r.val = v) ∨ ((∀ h ∈ hist, h.s.o.dst ≠ some t) ∧ (TL.get 2 t fr0).join = some v)
/-- What the activation holds: of the steps that have been. -/
def Cur (fr0 : Fr) (D : Nat → Prop) (hist : List Hs) (t : Nat) (v : AV) : Prop :=
  (∃ h ∈ hist, D h.s.i ∧ h.s.o.dst = some t ∧ h.r.val = v) ∨ ((∀ h ∈ hist, D h.s.i → h.s.o.dst ≠ some t) ∧ (TL.get 2 t fr0).join = some v)
def HistOk (fr0 : Fr) : List Hs → Prop
  | [] => True
  | h :: A => (∀ t v, (TL.get 2 t h.fr).join = some v → Full fr0 A t v) ∧ HistOk fr0 A
theorem HistOk.at {fr0 : Fr} : ∀ {B : List Hs} {h : Hs} {A : List Hs}, HistOk fr0 (B ++ h :: A) → ∀ t v, (TL.get 2 t h.fr).join = some v → Full fr0 A t v
  | [], _, _, q => q.1
  | _ :: B, _, _, q => HistOk.at (B := B) q.2

theorem pw_eq {α : Type} {f : α → Nat} : ∀ {l : List α}, l.Pairwise (fun a b => f a ≠ f b) → ∀ {a b : α}, a ∈ l → b ∈ l → f a = f b → a = b
  | [], _, _, _, h, _, _ => by cases h
  | x :: l, hp, a, b, ha, hb, hf => by
    obtain ⟨h1, h2⟩ := List.pairwise_cons.1 hp
    rcases List.mem_cons.1 ha with rfl | ha2
    · rcases List.mem_cons.1 hb with rfl | hb
      · rfl
      · exact absurd hf (h1 b hb)
    · rcases List.mem_cons.1 hb with hbx | hb2
      · rw [hbx] at hf; exact absurd hf.symm (h1 a ha2)
      · exact pw_eq h2 ha2 hb2 hf
section
variable {P : Program} {ops : List Oper} {pl : List PStep}
theorem PlanFit.uniq (hp : PlanFit P ops pl) {s q : PStep} (hs : s ∈ pl) (hq : q ∈ pl) (h : s.i = q.i) : s = q := pw_eq hp.apart hs hq h
theorem PlanFit.before (hp : PlanFit P ops pl) {U V : List PStep} {q s : PStep} (h : pl = U ++ q :: V) (hs : s ∈ V) : ¬ q.mask.testBit s.i = true := by
  intro hb
  obtain ⟨z, hz, hzi⟩ := hp.pre U q V h _ hb
  have := hp.apart
  rw [h, List.pairwise_append] at this
  exact this.2.2 z hz s (List.mem_cons_of_mem _ hs) hzi
end

section
variable (P : Program) (H : CallH) (ops : List Oper)
noncomputable def planRest (K : Fr → St → Bool) (pl : List PStep) : Fr → St → List Pend → List Alc → Bool :=
  List.rec (motive := fun _ => Fr → St → List Pend → List Alc → Bool) (fun fr σ _ al => layAllK al σ fun σ => K fr σ)
    (fun s _ ih fr σ pend al => natB s.kind false fun k => natB k
      (wantK ops s.o fr
        (absorbK s.mask al σ fun _ σ1 => dispatch P H s.o.op fr σ1 fun v _ => putK s.o.dst v fr fun fr' =>
          ih fr' σ (⟨s.i, fun al' τ => absorbK s.mask al' τ fun _ τ1 => dispatch P H s.o.op fr τ1 fun v' _ => avEq 12 v v'⟩ :: pend) al)
        (putK s.o.dst .undef fr fun fr' => ih fr' σ pend al))
      fun k => natB k
        (wantK ops s.o fr
          (allocOf P s.o.op fr fun A f => putK s.o.dst (f σ.nx) fr fun fr' => forceN (Nat.succ σ.nx) fun n => ih fr' ⟨σ.h, n, σ.df⟩ pend (⟨s.i, σ.nx, A⟩ :: al))
          (putK s.o.dst .undef fr fun fr' => ih fr' σ pend al))
        fun _ => wantK ops s.o fr
          (absorbK s.mask al σ fun al' σ => dropP s.mask pend fun pend' => dispatch P H s.o.op fr σ fun v σ' => ifB (recheckK pend' al' σ') (putK s.o.dst v fr fun fr' => ih fr' σ' pend' al') false)
          (putK s.o.dst .undef fr fun fr' => ih fr' σ pend al)) pl
theorem planK_eq {pl : List PStep} {fr : Fr} {σ : St} {K : Fr → St → Bool} : planK P H ops pl fr σ K = planRest P H ops K pl fr σ [] [] := rfl

/-- A step that the evaluator has taken, and that has not been. -/
def Todo (σ : St) (al : List Alc) (h : Hs) : Prop :=
  match h.r with
  | .no => ∀ Y N, wantK ops h.s.o h.fr Y N = N
  | .read v => (∀ Y N, wantK ops h.s.o h.fr Y N = Y) ∧ kindOp P h.s.o.op = 1 ∧ ∃ h', (∀ n K, absorbK h.s.mask al ⟨σ.h, n, σ.df⟩ K = K (al.filter fun x => ! hasBit h.s.mask x.i) ⟨h', n, σ.df⟩) ∧ ∀ n K, dispatch P H h.s.o.op h.fr ⟨h', n, σ.df⟩ K = K v ⟨h', n, σ.df⟩
  | .mk A f _ => (∀ Y N, wantK ops h.s.o h.fr Y N = Y) ∧ ∀ K, allocOf P h.s.o.op h.fr K = K A f
  | .big _ => False

structure RInv (X : Fix) (pl : List PStep) (fr0 : Fr) (K : Fr → St → Bool) (e0 : Env) (D : Nat → Prop) (hist : List Hs) (rs : List PStep) (fr : Fr) (σ : St) (pend : List Pend) (al : List Alc) (e : Env) (a : Act) (w : World) : Prop where
  plan : pl = (hist.map (·.s)).reverse ++ rs
  notyet : ∀ q ∈ rs, ¬ D q.i
  closed : ∀ q ∈ pl, D q.i → ∀ j, q.mask.testBit j = true → D j
  go : planRest P H ops K rs fr σ pend al = true
  hok : HistOk fr0 hist
  cur : ∀ t v, (TL.get 2 t fr).join = some v → Full fr0 hist t v
  wr : WRel P (fixOf X e w D (· ∈ al)) e σ w
  old : ∀ c, X.F c → w.heap[c]? = X.H c
  df : DRel e σ.df a.defers
  tmp : ∀ t v, Cur fr0 D hist t v → ∃ x, a.tmps[t]? = some x ∧ VRel e v x
  siz : ∀ h ∈ hist, ∀ d, h.s.o.dst = some d → d < a.tmps.size
  todo : ∀ h ∈ hist, ¬ D h.s.i → Todo P H ops σ al h
  pnd : ∀ h ∈ hist, ¬ D h.s.i → ∀ v, h.r = .read v → ∃ p ∈ pend, p.i = h.s.i ∧ p.chk = fun al' τ => absorbK h.s.mask al' τ fun _ τ1 => dispatch P H h.s.o.op h.fr τ1 fun v' _ => avEq 12 v v'
  al1 : ∀ x ∈ al, ∃ h ∈ hist, h.s.i = x.i ∧ ∃ f, h.r = .mk x.A f x.b
  al2 : ∀ h ∈ hist, ¬ D h.s.i → ∀ A f b, h.r = .mk A f b → (⟨h.s.i, b, A⟩ : Alc) ∈ al
  alb : al.Pairwise (fun x y => x.b ≠ y.b)
  al4 : FloatOk P X e w D (· ∈ al)
  alr : ∀ x ∈ al, 64 ≤ x.b ∧ ¬ X.R x.b
  le : Env.Le e0 e
end

section
variable {P : Program} {H : CallH} {ops : List Oper} {X : Fix} {pl : List PStep} {fr0 : Fr} {K : Fr → St → Bool} {e0 : Env} {D : Nat → Prop} {hist : List Hs} {rs : List PStep} {fr : Fr} {σ : St} {pend : List Pend} {al : List Alc} {e : Env} {a : Act} {w : World}

theorem RInv.b_lt (hi : RInv P H ops X pl fr0 K e0 D hist rs fr σ pend al e a w) {x : Alc} (hx : x ∈ al) : x.b < σ.nx := by
  by_cases q : D x.i
  · obtain ⟨c, o, h1, _⟩ := hi.al4.here x hx q
    apply Nat.lt_of_not_le
    intro hle
    rw [(hi.wr.fresh x.b hle).1] at h1; cases h1
  · exact (hi.wr.res x.b (.inr ⟨x, hx, q, rfl⟩)).1

theorem Full.cons {h : Hs} {t : Nat} {v : AV} (hf : Full fr0 hist t v) (hd : h.s.o.dst ≠ some t) : Full fr0 (h :: hist) t v := by
  rcases hf with ⟨g, g1, g2⟩ | ⟨g1, g2⟩
  · exact .inl ⟨g, List.mem_cons_of_mem _ g1, g2⟩
  · refine .inr ⟨fun q hq => ?_, g2⟩
    rcases List.mem_cons.1 hq with rfl | hq
    · exact hd
    · exact g1 q hq

/-- A value put into the evaluator's frame. -/
theorem put_full {s : PStep} {r : Rec} {K' : Fr → Bool} (hc : ∀ t v, (TL.get 2 t fr).join = some v → Full fr0 hist t v) (h : putK s.o.dst r.val fr K' = true) :
    ∃ fr', K' fr' = true ∧ (∀ t v, (TL.get 2 t fr').join = some v → Full fr0 (⟨s, fr, r⟩ :: hist) t v) ∧ ∀ d, s.o.dst = some d → ∃ u, Full fr0 hist d u := by
  cases hd : s.o.dst with
  | none =>
    rw [hd] at h
    exact ⟨fr, h, fun t v hv => (hc t v hv).cons (by show s.o.dst ≠ some t; rw [hd]; simp), fun d hd => by cases hd⟩
  | some d =>
    rw [hd] at h
    obtain ⟨h1, h2⟩ := frSetK_iff.1 (show frSetK d r.val fr K' = true from h)
    refine ⟨_, h2, fun t v hv => ?_, fun d' hd' => ?_⟩
    · rw [fr_get_set h1] at hv
      by_cases q : d = t
      · subst q
        rw [if_pos rfl] at hv; cases hv
        exact .inl ⟨_, List.mem_cons_self, hd, rfl⟩
      · rw [if_neg q] at hv
        exact (hc t v hv).cons (by show s.o.dst ≠ some t; rw [hd]; simpa using q)
    · cases hd'
      obtain ⟨u, hu⟩ := h1
      exact ⟨u, hc d u hu⟩

theorem RInv.dst_lt (hi : RInv P H ops X pl fr0 K e0 D hist rs fr σ pend al e a w) {d : Nat} {u : AV} (h : Full fr0 hist d u) : d < a.tmps.size := by
  rcases h with ⟨g, g1, g2, _⟩ | ⟨g1, g2⟩
  · exact hi.siz g g1 d g2
  · obtain ⟨x, h1, _⟩ := hi.tmp d u (.inr ⟨fun h hh _ => g1 h hh, g2⟩)
    exact (Array.getElem?_eq_some_iff.1 h1).1

/-- The evaluator's next step, if it is not one of the third kind: nothing has been yet. -/
theorem RInv.extend (hp : PlanFit P ops pl) {s : PStep} (hk : s.kind ≠ 3) (hi : RInv P H ops X pl fr0 K e0 D hist (s :: rs) fr σ pend al e a w) :
    ∃ h fr' σ' pend' al', RInv P H ops X pl fr0 K e0 D (h :: hist) rs fr' σ' pend' al' e a w := by
  have hs : s ∈ pl := by rw [hi.plan]; simp
  obtain ⟨_, hkind⟩ := hp.at_ s hs
  have hnD : ¬ D s.i := hi.notyet s (by simp)
  have hplan : ∀ fr r, pl = (((⟨s, fr, r⟩ : Hs) :: hist).map (·.s)).reverse ++ rs := fun fr r => by rw [hi.plan]; simp
  have hCur : ∀ {fr r} t v, Cur fr0 D ((⟨s, fr, r⟩ : Hs) :: hist) t v → Cur fr0 D hist t v := by
    intro fr r t v hc
    rcases hc with ⟨g, g1, g2, g3⟩ | ⟨g1, g2⟩
    · rcases List.mem_cons.1 g1 with rfl | g1
      · exact absurd g2 hnD
      · exact .inl ⟨g, g1, g2, g3⟩
    · exact .inr ⟨fun h hh => g1 h (List.mem_cons_of_mem _ hh), g2⟩
  have same : ∀ g ∈ hist, ∀ K, ∀ n h df, absorbK g.s.mask al ⟨h, n, df⟩ K = absorbK g.s.mask al ⟨h, n, df⟩ fun r τ => K (al.filter fun x => ! hasBit g.s.mask x.i) τ := by
    intro g _ K n h df
    rcases absorb_sng (m := g.s.mask) al h df with z | ⟨h', z⟩
    · rw [z, z]
    · rw [z, z]
  have nomask : ∀ g ∈ hist, hasBit g.s.mask s.i = false := by
    intro g hg
    rw [hasBit_eq]
    cases q : g.s.mask.testBit s.i with
    | false => rfl
    | true =>
      exfalso
      obtain ⟨U1, U2, hU⟩ := List.append_of_mem (show g.s ∈ (hist.map (·.s)).reverse by simp only [List.mem_reverse, List.mem_map]; exact ⟨g, hg, rfl⟩)
      exact hp.before (U := U1) (q := g.s) (V := U2 ++ s :: rs) (by rw [hi.plan, hU]; simp) (by simp) q
  have common : ∀ {r : Rec} {K' : Fr → Bool} {σ' : St} {pend' : List Pend} {al' : List Alc}, putK s.o.dst r.val fr K' = true → (∀ fr', K' fr' = true → planRest P H ops K rs fr' σ' pend' al' = true) → σ'.h = σ.h → σ'.df = σ.df →
      WRel P (fixOf X e w D (· ∈ al')) e σ' w → Todo P H ops σ' al' ⟨s, fr, r⟩ → (∀ g ∈ hist, ∀ K, ∀ n h df, absorbK g.s.mask al' ⟨h, n, df⟩ K = absorbK g.s.mask al ⟨h, n, df⟩ fun r τ => K (al'.filter fun x => ! hasBit g.s.mask x.i) τ) →
      (∀ v, r = .read v → ∃ p ∈ pend', p.i = s.i ∧ p.chk = fun al' τ => absorbK s.mask al' τ fun _ τ1 => dispatch P H s.o.op fr τ1 fun v' _ => avEq 12 v v') → (∀ p ∈ pend, p ∈ pend') →
      (∀ x ∈ al', (x ∈ al) ∨ (s.i = x.i ∧ ∃ f, r = .mk x.A f x.b)) → (∀ x ∈ al, x ∈ al') → (∀ A f b, r = .mk A f b → (⟨s.i, b, A⟩ : Alc) ∈ al') → al'.Pairwise (fun x y => x.b ≠ y.b) → (∀ x ∈ al', 64 ≤ x.b ∧ ¬ X.R x.b) →
      ∃ h fr' σ' pend' al', RInv P H ops X pl fr0 K e0 D (h :: hist) rs fr' σ' pend' al' e a w := by
    intro r K' σ' pend' al' hput hgo hsh hsd hw' htodo habs hp1 hp2 ha1 ha2 ha3 hab har
    obtain ⟨fr', h1, h2, h3⟩ := put_full hi.cur hput
    have hfl : ∀ x ∈ al', D x.i → x ∈ al := fun x hx hD => (ha1 x hx).resolve_right (fun hh => hnD (hh.1 ▸ hD))
    refine ⟨⟨s, fr, r⟩, fr', σ', pend', al', ⟨hplan _ _, fun q hq => hi.notyet q (List.mem_cons_of_mem _ hq), hi.closed, hgo fr' h1, ⟨hi.cur, hi.hok⟩, h2, hw', hi.old, by rw [hsd]; exact hi.df,
      fun t v hc => hi.tmp t v (hCur t v hc), fun g hg d hd => ?_, fun g hg hD => ?_, fun g hg hD v hv => ?_, fun x hx => ?_, fun g hg hD A f b hr => ?_, hab, ⟨fun x hx hD => hi.al4.here x (hfl x hx hD) hD, fun x y c hx hy hDx hDy => hi.al4.one x y c (hfl x hx hDx) (hfl y hy hDy) hDx hDy⟩, har, hi.le⟩⟩
    · rcases List.mem_cons.1 hg with rfl | hg
      · obtain ⟨u, hu⟩ := h3 d hd
        exact hi.dst_lt hu
      · exact hi.siz g hg d hd
    · rcases List.mem_cons.1 hg with rfl | hg
      · exact htodo
      · have := hi.todo g hg hD
        unfold Todo at this ⊢
        rw [hsh, hsd]
        cases hr : g.r with
        | read v =>
          simp only [hr] at this ⊢
          obtain ⟨t1, t2, h', t3, t4⟩ := this
          exact ⟨t1, t2, h', fun n K => by rw [habs g hg, t3], t4⟩
        | no => simp only [hr] at this ⊢; exact this
        | mk A f b => simp only [hr] at this ⊢; exact this
        | big v => simp only [hr] at this
    · rcases List.mem_cons.1 hg with rfl | hg
      · exact hp1 v hv
      · obtain ⟨p, q1, q2⟩ := hi.pnd g hg hD v hv
        exact ⟨p, hp2 p q1, q2⟩
    · rcases ha1 x hx with hx | ⟨q1, q2⟩
      · obtain ⟨g, g1, g2⟩ := hi.al1 x hx
        exact ⟨g, List.mem_cons_of_mem _ g1, g2⟩
      · exact ⟨_, List.mem_cons_self, q1, q2⟩
    · rcases List.mem_cons.1 hg with rfl | hg
      · exact ha3 A f b hr
      · exact ha2 _ (hi.al2 g hg hD A f b hr)
  have skipped : putK s.o.dst .undef fr (fun fr' => planRest P H ops K rs fr' σ pend al) = true → (∀ Y N, wantK ops s.o fr Y N = N) → ∃ h fr' σ' pend' al', RInv P H ops X pl fr0 K e0 D (h :: hist) rs fr' σ' pend' al' e a w := by
    intro h1 h2
    exact common (r := .no) h1 (fun fr' h => h) rfl rfl hi.wr h2 same (fun v hv => by cases hv) (fun p hp => hp) (fun x hx => .inl hx) (fun x hx => hx) (fun A f b hr => by cases hr) hi.alb hi.alr
  have hgo := hi.go
  rcases kindOp_cases P s.o.op with k1 | k2 | k3
  · have hg : wantK ops s.o fr
        (absorbK s.mask al σ fun _ σ1 => dispatch P H s.o.op fr σ1 fun v _ => putK s.o.dst v fr fun fr' =>
          planRest P H ops K rs fr' σ (⟨s.i, fun al' τ => absorbK s.mask al' τ fun _ τ1 => dispatch P H s.o.op fr τ1 fun v' _ => avEq 12 v v'⟩ :: pend) al)
        (putK s.o.dst .undef fr fun fr' => planRest P H ops K rs fr' σ pend al) = true := by
      have hgo' : natB s.kind false _ = true := hgo
      rw [hkind, k1] at hgo'
      exact hgo'
    rcases wantK_sng (all := ops) (o := s.o) (fr := fr) with q | q | q
    · rw [q] at hg; cases hg
    · rw [q] at hg
      rcases absorb_sng (m := s.mask) al σ.h σ.df with y | ⟨h', y⟩
      · rw [show absorbK s.mask al σ _ = false from y σ.nx _] at hg; cases hg
      · rcases dispatch_sng (H := H) k1 fr h' σ.df with z | ⟨v, z⟩
        · rw [show absorbK s.mask al σ _ = _ from y σ.nx _, z σ.nx] at hg; cases hg
        · have hg' : putK s.o.dst v fr (fun fr' => planRest P H ops K rs fr' σ (⟨s.i, fun al' τ => absorbK s.mask al' τ fun _ τ1 => dispatch P H s.o.op fr τ1 fun v' _ => avEq 12 v v'⟩ :: pend) al) = true := by
            rw [show absorbK s.mask al σ _ = _ from y σ.nx _, z σ.nx] at hg
            exact hg
          exact common (r := .read v) hg' (fun fr' h => h) rfl rfl hi.wr ⟨q, k1, h', y, z⟩ same (fun v' hv => by cases hv; exact ⟨_, List.mem_cons_self, rfl, rfl⟩) (fun p hp => List.mem_cons_of_mem _ hp) (fun x hx => .inl hx) (fun x hx => hx) (fun A f b hr => by cases hr) hi.alb hi.alr
    · rw [q] at hg; exact skipped hg q
  · have hg : wantK ops s.o fr
          (allocOf P s.o.op fr fun A f => putK s.o.dst (f σ.nx) fr fun fr' => forceN (Nat.succ σ.nx) fun n => planRest P H ops K rs fr' ⟨σ.h, n, σ.df⟩ pend (⟨s.i, σ.nx, A⟩ :: al))
          (putK s.o.dst .undef fr fun fr' => planRest P H ops K rs fr' σ pend al) = true := by
      have hgo' : natB s.kind false _ = true := hgo
      rw [hkind, k2] at hgo'
      exact hgo'
    rcases wantK_sng (all := ops) (o := s.o) (fr := fr) with q | q | q
    · rw [q] at hg; cases hg
    · rw [q] at hg
      rcases alloc_sng (P := P) (op := s.o.op) (fr := fr) with z | ⟨A, f, z⟩
      · rw [z] at hg; cases hg
      · rw [z] at hg
        simp only [forceN_eq] at hg
        have hw1 := hi.wr.reserve (x0 := ⟨s.i, σ.nx, A⟩) rfl hnD
        have fresh : ∀ g ∈ hist, ∀ K, ∀ n h df, absorbK g.s.mask ((⟨s.i, σ.nx, A⟩ : Alc) :: al) ⟨h, n, df⟩ K = absorbK g.s.mask al ⟨h, n, df⟩ fun r τ => K (((⟨s.i, σ.nx, A⟩ : Alc) :: al).filter fun x => ! hasBit g.s.mask x.i) τ := by
          intro g hg' K n h df
          have e1 : absorbK g.s.mask ((⟨s.i, σ.nx, A⟩ : Alc) :: al) ⟨h, n, df⟩ K = ifB (hasBit g.s.mask s.i) (hSetK σ.nx (some A) ⟨h, n, df⟩ fun σ => absorbK g.s.mask al σ K) (absorbK g.s.mask al ⟨h, n, df⟩ fun r σ' => K (⟨s.i, σ.nx, A⟩ :: r) σ') := rfl
          have hno := nomask g hg'
          have e2 : ((⟨s.i, σ.nx, A⟩ : Alc) :: al).filter (fun x => ! hasBit g.s.mask x.i) = ⟨s.i, σ.nx, A⟩ :: al.filter (fun x => ! hasBit g.s.mask x.i) := by
            rw [List.filter_cons]; simp [hno]
          rw [e1, hno, ifB_false, e2]
          rcases absorb_sng (m := g.s.mask) al h df with z | ⟨h', z⟩
          · rw [z, z]
          · rw [z, z]
        have hbl : ∀ x ∈ al, σ.nx ≠ x.b := fun x hx => by have := hi.b_lt hx; omega
        refine common (r := .mk A f σ.nx) hg (σ' := ⟨σ.h, σ.nx + 1, σ.df⟩) (fun fr' h => h) rfl rfl (hw1.swap (fun c hc => ⟨?_, rfl⟩) (fun b hb => ?_) rfl rfl rfl) ⟨q, z⟩ fresh (fun v' hv => by cases hv) (fun p hp => hp)
          (fun x hx => ?_) (fun x hx => List.mem_cons_of_mem _ hx) (fun A' f' b' hr => by cases hr; exact List.mem_cons_self) (List.pairwise_cons.2 ⟨hbl, hi.alb⟩) (fun x hx => ?_)
        · rcases hc with g | ⟨y, g1, g2⟩
          · exact .inl g
          · rcases List.mem_cons.1 g1 with rfl | g1
            · exact .inr ⟨_, .inr rfl, g2⟩
            · exact .inr ⟨y, .inl g1, g2⟩
        · rcases hb with g | ⟨y, g1, g2⟩
          · exact .inl g
          · rcases List.mem_cons.1 g1 with rfl | g1
            · exact .inr ⟨_, .inr rfl, g2⟩
            · exact .inr ⟨y, .inl g1, g2⟩
        · rcases List.mem_cons.1 hx with rfl | hx
          · exact .inr ⟨rfl, f, rfl⟩
          · exact .inl hx
        · rcases List.mem_cons.1 hx with rfl | hx
          · refine ⟨nx_ge hi.wr, fun hR => ?_⟩
            have := (hi.wr.res σ.nx (.inl hR)).1
            omega
          · exact hi.alr x hx
    · rw [q] at hg; exact skipped hg q
  · exact absurd (hkind.trans k3) hk
end
end Go.Ev

/- The evaluator, part 35: regions that draw their order: every step, whichever comes up. -/
namespace Go.Ev

theorem dropP_eq {m : Nat} : ∀ {pend : List Pend} {K : List Pend → Bool}, dropP m pend K = K (pend.filter fun p => ! hasBit m p.i)
  | [], _ => rfl
  | p :: pend, K => by
    have h : dropP m (p :: pend) K = ifB (hasBit m p.i) (dropP m pend K) (dropP m pend fun r => K (p :: r)) := rfl
    rw [h, dropP_eq, dropP_eq, List.filter_cons]
    cases hasBit m p.i <;> rfl
theorem recheckK_iff {al : List Alc} {σ : St} : ∀ {pend : List Pend}, recheckK pend al σ = true ↔ ∀ p ∈ pend, p.chk al σ = true
  | [] => by simp [recheckK]
  | p :: pend => by
    have h : recheckK (p :: pend) al σ = ifB (p.chk al σ) (recheckK pend al σ) false := rfl
    rw [h, ifB_iff, recheckK_iff]
    simp
theorem Act.put_get {a : Act} {d : Option Nat} {x : Value} {t : Nat} (h : d ≠ some t) : (a.put d x).tmps[t]? = a.tmps[t]? := by
  cases d with
  | none => rfl
  | some d =>
    have : d ≠ t := fun hh => h (by rw [hh])
    rw [Act.put_some, Array.getElem?_setIfInBounds_ne this]
theorem Act.put_size {a : Act} {d : Option Nat} {x : Value} : (a.put d x).tmps.size = a.tmps.size := by
  cases d with
  | none => rfl
  | some d => rw [Act.put_some]; simp

section
variable {P : Program} {H : CallH} {ops : List Oper} {X : Fix} {pl : List PStep} {fr0 : Fr} {K : Fr → St → Bool} {e0 : Env} {D : Nat → Prop} {hist : List Hs} {rs : List PStep} {fr : Fr} {σ : St} {pend : List Pend} {al : List Alc} {e : Env} {a : Act} {w : World}

theorem RInv.mem (hi : RInv P H ops X pl fr0 K e0 D hist rs fr σ pend al e a w) {g : Hs} (hg : g ∈ hist) : g.s ∈ pl := by
  rw [hi.plan]
  simp only [List.mem_append, List.mem_reverse, List.mem_map]
  exact .inl ⟨g, hg, rfl⟩
theorem RInv.uniq (hp : PlanFit P ops pl) (hi : RInv P H ops X pl fr0 K e0 D hist rs fr σ pend al e a w) {g g' : Hs} (hg : g ∈ hist) (hg' : g' ∈ hist) (h : g.s.i = g'.s.i) : g = g' := by
  have h1 := hp.apart
  rw [hi.plan, List.pairwise_append, List.pairwise_reverse, List.pairwise_map] at h1
  have h2 : hist.Pairwise (fun a b => a.s.i ≠ b.s.i) := h1.1.imp (fun h => h.symm)
  exact pw_eq (f := fun g : Hs => g.s.i) h2 hg hg' h

/-- What a step looks at, and what the evaluator knew of it, is there. -/
theorem RInv.look (hp : PlanFit P ops pl) (hi : RInv P H ops X pl fr0 K e0 D hist rs fr σ pend al e a w) {s : PStep} {B A : List Hs} {V : List PStep} (hh : hist = B ++ A) (hpl : pl = (A.map (·.s)).reverse ++ s :: V)
    (hB : ∀ g ∈ B, g.s = s ∨ g.s ∈ V) (hnD : ¬ D s.i) (hm : ∀ j, s.mask.testBit j = true → D j) {t : Nat} (ht : t ∈ tmpsOf s.o ops) {v : AV} (hf : Full fr0 A t v) : ∃ x, a.tmps[t]? = some x ∧ VRel e v x := by
  have hs : s ∈ pl := by rw [hpl]; simp
  refine hi.tmp t v ?_
  rcases hf with ⟨q, q1, q2, q3⟩ | ⟨q1, q2⟩
  · have hqh : q ∈ hist := by rw [hh]; simp [q1]
    have hqp := hi.mem hqh
    have hne : s.i ≠ q.s.i := by
      have h1 := hp.apart
      rw [hpl, List.pairwise_append] at h1
      exact (h1.2.2 q.s (by simp only [List.mem_reverse, List.mem_map]; exact ⟨q, q1, rfl⟩) s (by simp)).symm
    rcases hp.rw_ s hs q.s hqp hne t q2 ht with h1 | h1
    · exact .inl ⟨q, hqh, hm _ h1, q2, q3⟩
    · exfalso
      obtain ⟨U1, U2, hU⟩ := List.append_of_mem (show q.s ∈ (A.map (·.s)).reverse by simp only [List.mem_reverse, List.mem_map]; exact ⟨q, q1, rfl⟩)
      exact hp.before (U := U1) (q := q.s) (V := U2 ++ s :: V) (by rw [hpl, hU]; simp) (by simp) h1
  · refine .inr ⟨fun g hg hD hd => ?_, q2⟩
    rw [hh] at hg
    rcases List.mem_append.1 hg with hg | hg
    · rcases hB g hg with h1 | h1
      · rw [h1] at hD; exact hnD hD
      · have hgp : g.s ∈ pl := by rw [hpl]; simp [h1]
        have hne : s.i ≠ g.s.i := by intro h2; exact hnD (h2 ▸ hD)
        rcases hp.rw_ s hs g.s hgp hne t hd ht with h2 | h2
        · exact hp.before hpl h1 h2
        · exact hnD (hi.closed g.s hgp hD _ h2)
    · exact q1 g hg hd

theorem ook_of {s : PStep} {fr : Fr} (hl : ∀ t, t ∈ tmpsOf s.o ops → ∀ v, (TL.get 2 t fr).join = some v → ∃ x, a.tmps[t]? = some x ∧ VRel e v x) : ∀ x ∈ s.o.op.operands, OOk e fr a x := by
  intro x hx
  cases x with
  | tmp t =>
    intro v hv
    have ht : t ∈ tmpsOf s.o ops := by
      unfold tmpsOf
      exact List.mem_append_left _ (List.mem_filterMap.2 ⟨.tmp t, by simpa using hx, rfl⟩)
    obtain ⟨y, h1, h2⟩ := hl t ht v hv
    have : a.eval (.tmp t) = y := by simp [Act.eval, h1]
    rw [this]; exact h2
  | _ => trivial
theorem wanted_of {s : PStep} {fr : Fr} {b : Bool} (hl : ∀ t, t ∈ tmpsOf s.o ops → ∀ v, (TL.get 2 t fr).join = some v → ∃ x, a.tmps[t]? = some x ∧ VRel e v x) (h : wantK ops s.o fr b (!b) = true) : Region.wanted s.o (yielded ops.toArray a.tmps) = b := by
  have := wantK_ok (a := a) (e := e) h (fun g d hg hd v hv => by
    refine hl d ?_ v hv
    unfold tmpsOf
    refine List.mem_append_right _ ?_
    rw [hg]
    simp [hd])
  rcases this with ⟨h1, h2⟩ | ⟨h1, h2⟩
  · rw [h1, h2]
  · rw [h1]; cases b <;> simp at h2 ⊢

/-- A step that the evaluator had taken has been. -/
theorem RInv.done (hp : PlanFit P ops pl) (hi : RInv P H ops X pl fr0 K e0 D hist rs fr σ pend al e a w) {h : Hs} (hh : h ∈ hist) (hm : ∀ j, h.s.mask.testBit j = true → D j) {D' : Nat → Prop} (hD' : ∀ j, D' j ↔ D j ∨ j = h.s.i)
    {e1 : Env} {y : Value} {a1 : Act} {w1 : World} (hle : Env.Le e e1) (hy : VRel e1 h.r.val y) (hw : WRel P (fixOf X e1 w1 D' (· ∈ al)) e1 σ w1) (hold : ∀ c, X.F c → w1.heap[c]? = X.H c) (hdf : DRel e1 σ.df a1.defers) (ht : a1.tmps = a.tmps)
    (hfl : FloatOk P X e1 w1 D' (· ∈ al)) (hdst : Env.Le e0 e1) : RInv P H ops X pl fr0 K e0 D' hist rs fr σ pend al e1 (a1.put h.s.o.dst y) w1 := by
  refine ⟨hi.plan, fun q hq hD => ?_, fun q hq hD j hj => ?_, hi.go, hi.hok, hi.cur, hw, hold, by rw [Act.put_defers]; exact hdf, fun t v hc => ?_, fun g hg d hd => by rw [Act.put_size, ht]; exact hi.siz g hg d hd,
    fun g hg hD => hi.todo g hg (fun hh => hD ((hD' _).2 (.inl hh))), fun g hg hD => hi.pnd g hg (fun hh => hD ((hD' _).2 (.inl hh))), hi.al1, fun g hg hD => hi.al2 g hg (fun hh => hD ((hD' _).2 (.inl hh))), hi.alb, hfl, hi.alr, hdst⟩
  · rcases (hD' _).1 hD with h1 | h1
    · exact hi.notyet q hq h1
    · have h2 := hp.apart
      rw [hi.plan, List.pairwise_append] at h2
      exact h2.2.2 h.s (by simp only [List.mem_reverse, List.mem_map]; exact ⟨h, hh, rfl⟩) q hq h1.symm
  · rcases (hD' _).1 hD with h1 | h1
    · exact (hD' _).2 (.inl (hi.closed q hq h1 j hj))
    · have := hp.uniq hq (hi.mem hh) h1
      subst this
      exact (hD' _).2 (.inl (hm j hj))
  · rcases hc with ⟨g, g1, g2, g3, g4⟩ | ⟨g1, g2⟩
    · rcases (hD' _).1 g2 with h1 | h1
      · by_cases hd : h.s.o.dst = some t
        · by_cases hgi : g.s.i = h.s.i
          · have := hi.uniq hp g1 hh hgi
            subst this; subst g4
            refine ⟨y, ?_, hy⟩
            rw [hd, Act.put_some, ht, Array.getElem?_setIfInBounds_self_of_lt (hi.siz g g1 t g3)]
          · exact absurd hd (hp.dst g.s (hi.mem g1) h.s (hi.mem hh) hgi t g3)
        · obtain ⟨x, x1, x2⟩ := hi.tmp t v (.inl ⟨g, g1, h1, g3, g4⟩)
          exact ⟨x, by rw [Act.put_get hd, ht]; exact x1, x2.mono hle⟩
      · have := hi.uniq hp g1 hh h1
        subst this; subst g4
        refine ⟨y, ?_, hy⟩
        rw [g3, Act.put_some, ht, Array.getElem?_setIfInBounds_self_of_lt (hi.siz g g1 t g3)]
    · have hd : h.s.o.dst ≠ some t := g1 h hh ((hD' _).2 (.inr rfl))
      obtain ⟨x, x1, x2⟩ := hi.tmp t v (.inr ⟨fun q hq hD => g1 q hq ((hD' _).2 (.inl hD)), g2⟩)
      exact ⟨x, by rw [Act.put_get hd, ht]; exact x1, x2.mono hle⟩

/-- What an operation leaves of the floating blocks. -/
theorem float_kept {D' : Nat → Prop} {S S' : Alc → Prop} {e1 : Env} {σ1 : St} {w1 : World} (hf : FloatOk P X e w D S) (hw : WRel P (fixOf X e w D S) e1 σ1 w1) (hle : Env.Le e e1) (hS : ∀ x, S' x → S x) (hD' : ∀ x, S x → (D' x.i ↔ D x.i)) (hold : ∀ c, X.F c → w.heap[c]? = X.H c) :
    WRel P (fixOf X e1 w1 D' S') e1 σ1 w1 ∧ FloatOk P X e1 w1 D' S' ∧ ∀ c, X.F c → w1.heap[c]? = X.H c := by
  have back : ∀ x c, S x → D x.i → e1.blk x.b = some c → e.blk x.b = some c := by
    intro x c hx hD hc
    obtain ⟨c', o, h1, _⟩ := hf.here x hx hD
    have := hle.blk _ _ h1
    rw [hc] at this; cases this
    exact h1
  refine ⟨hw.swap (fun c hc => ⟨?_, rfl⟩) (fun b hb => ?_) rfl rfl rfl, ⟨fun x hx hD => ?_, fun x y c hx hy hDx hDy h1 h2 => ?_⟩, fun c hc => ?_⟩
  · rcases hc with g | ⟨y, g1, g2, g3⟩
    · exact .inl g
    · have hD := (hD' y (hS y g1)).1 g2
      exact .inr ⟨y, hS y g1, hD, back y c (hS y g1) hD g3⟩
  · rcases hb with g | ⟨y, g1, g2, g3⟩
    · exact .inl g
    · exact .inr ⟨y, hS y g1, fun hh => g2 ((hD' y (hS y g1)).2 hh), g3⟩
  · have hx := hS x hx
    have hD := (hD' x hx).1 hD
    obtain ⟨c, o, h1, h2, h3, h4⟩ := hf.here x hx hD
    refine ⟨c, o, hle.blk _ _ h1, ?_, h3.mono hle, h4⟩
    rw [(hw.old c (.inr ⟨x, hx, hD, h1⟩)).2]; exact h2
  · have hx := hS x hx
    have hy := hS y hy
    have hDx := (hD' x hx).1 hDx
    have hDy := (hD' y hy).1 hDy
    exact hf.one x y c hx hy hDx hDy (back x c hx hDx h1) (back y c hy hDy h2)
  · rw [(hw.old c (.inl hc)).2]; exact hold c hc

/-- A step of the first two kinds comes up. -/
theorem RInv.step {ro : Option Nat} {n : Nat} (hp : PlanFit P ops pl) (hnd : ∀ o ∈ ops, NDef ro o.op) (hH : ∀ Y : Fix, Y.opq = X.opq → Y.pan = X.pan → CallHOk P Y H) {Q : Exit → Act → World → Prop} (hX : ∀ (e1 : Env) df c (a : Act) w, Env.Le e0 e1 → DRel e1 df a.defers → Pan P X e1 df c w → Q (.panic c) a w) (hi : RInv P H ops X pl fr0 K e0 D hist rs fr σ pend al e a w) {h : Hs} (hh : h ∈ hist) (hnD : ¬ D h.s.i) (hm : ∀ j, h.s.mask.testBit j = true → D j) {D' : Nat → Prop} (hD' : ∀ j, D' j ↔ D j ∨ j = h.s.i)
    {N : Act → World → Prop} (hN : ∀ e a w, RInv P H ops X pl fr0 K e0 D' hist rs fr σ pend al e a w → N a w) : wpOpIn (wideR ro) n P ops.toArray Q h.s.i N a w := by
  have hs := hi.mem hh
  obtain ⟨hat, _⟩ := hp.at_ h.s hs
  have hget : ops.toArray[h.s.i]? = some h.s.o := by simpa using hat
  have hsem : ∀ ρ, h.s.o.semAt (wideR ro).round ρ = execOp ρ h.s.o := fun ρ => semAt_ndef (hnd _ (List.mem_of_getElem? hat))
  obtain ⟨B, A, hBA⟩ := List.append_of_mem hh
  have hpl : pl = (A.map (·.s)).reverse ++ h.s :: ((B.map (·.s)).reverse ++ rs) := by rw [hi.plan, hBA]; simp
  have hok := hi.hok
  rw [hBA] at hok
  have hl : ∀ t, t ∈ tmpsOf h.s.o ops → ∀ v, (TL.get 2 t h.fr).join = some v → ∃ x, a.tmps[t]? = some x ∧ VRel e v x := fun t ht v hv =>
    hi.look hp (s := h.s) (B := B ++ [h]) (A := A) (by rw [hBA]; simp) hpl (fun g hg => by
      rcases List.mem_append.1 hg with hg | hg
      · right; simp only [List.mem_append, List.mem_reverse, List.mem_map]; exact .inl ⟨g, hg, rfl⟩
      · left; rw [List.mem_singleton.1 hg]) hnD hm ht (hok.at t v hv)
  have htodo := hi.todo h hh hnD
  unfold wpOpIn
  simp only [hget]
  unfold Todo at htodo
  cases hr : h.r with
  | no =>
    simp only [hr] at htodo
    rw [wanted_of (b := false) hl (htodo _ _), if_neg (by simp)]
    obtain ⟨k1, k2, k3⟩ := float_kept (D' := D') hi.al4 hi.wr (Env.Le.refl e) (fun x hx => hx) (fun x hx => by
      rw [hD']
      refine ⟨fun hh' => hh'.resolve_right ?_, .inl⟩
      intro hxi
      obtain ⟨g, g1, g2, f, g3⟩ := hi.al1 x hx
      have := hi.uniq hp g1 hh (g2.trans hxi)
      subst this
      rw [hr] at g3; cases g3) hi.old
    exact ⟨fun _ _ => trivial, hN e _ w (hi.done hp hh hm hD' (Env.Le.refl e) (by rw [hr]; exact ⟨[], rfl, rfl⟩) k1 k3 hi.df rfl k2 hi.le)⟩
  | read v =>
    simp only [hr] at htodo
    obtain ⟨t1, t2, h1, t3, t4⟩ := htodo
    rw [wanted_of (b := true) hl (t1 _ _), if_pos rfl]
    refine ⟨fun _ _ => trivial, ?_⟩
    rw [hsem]
    classical
    -- the blocks that it waits for are laid
    have hal1 : ∀ x ∈ al, D' x.i ↔ D x.i := fun x hx => by
      rw [hD']
      refine ⟨fun hh' => hh'.resolve_right ?_, .inl⟩
      intro hxi
      obtain ⟨g, g1, g2, f, g3⟩ := hi.al1 x hx
      have := hi.uniq hp g1 hh (g2.trans hxi)
      subst this
      rw [hr] at g3; cases g3
    have e1 : (⟨σ.h, σ.nx, σ.df⟩ : St) = σ := rfl
    have hab : absorbK h.s.mask al σ (fun l τ => decide (l = al.filter (fun x => ! hasBit h.s.mask x.i) ∧ τ = ⟨h1, σ.nx, σ.df⟩)) = true := by
      have := t3 σ.nx (fun l τ => decide (l = al.filter (fun x => ! hasBit h.s.mask x.i) ∧ τ = ⟨h1, σ.nx, σ.df⟩))
      rw [e1] at this
      rw [this]; simp
    obtain ⟨σ1, q1, q2, q3, q4, q5, q6⟩ := absorb_ok (D := D) hm al (S := (· ∈ al)) (fun x hx => hx) hi.alb hi.al4 hi.wr hab
    obtain ⟨-, rfl⟩ := decide_eq_true_iff.1 q1
    have hdis : dispatch P H h.s.o.op h.fr ⟨h1, σ.nx, σ.df⟩ (fun u τ => decide (u = v ∧ τ = ⟨h1, σ.nx, σ.df⟩)) = true := by
      rw [t4]; simp
    have hfl1 : FloatOk P X e w D (fun x => x ∈ al ∧ ¬ (x ∈ al ∧ hasBit h.s.mask x.i = true)) := hi.al4.sub fun x hx => hx.1
    refine upon_raw (dispatch_ok (hH (fixOf X e w D fun x => x ∈ al ∧ ¬ (x ∈ al ∧ hasBit h.s.mask x.i = true)) rfl rfl) (o := h.s.o) (a := a) (ook_of (ops := ops) hl) hdis q4) hi.df ?_ (fun c w' hpan => hX e σ.df c a w' hi.le hi.df (Pan.unfloat hi.old hpan))
    intro e' v' σ' y a' w' g1 g2 g3 g4 g5 g6
    obtain ⟨rfl, rfl⟩ := decide_eq_true_iff.1 g4
    obtain ⟨k1, k2, k3⟩ := float_kept (D' := D') hfl1 g2 g1 (fun x hx => hx) (fun x hx => hal1 x hx.1) hi.old
    obtain ⟨m1, m2⟩ := unlay_ok (σ := σ) (S := (· ∈ al)) k1 k2 (fun x hx => hx.1) (fun b A hA => by
        have hne : ∀ x ∈ al, hasBit h.s.mask x.i = true → x.b ≠ b := by
          rintro x hx hb rfl
          have hDx := hm _ (by rw [← hasBit_eq]; exact hb)
          obtain ⟨c, o, r1, _⟩ := hi.al4.here x hx hDx
          obtain ⟨c', o', s1, _, _, s4⟩ := hi.wr.blk x.b A hA
          rw [r1] at s1; cases s1
          exact s4 (.inr ⟨x, hx, hDx, r1⟩)
        refine ⟨q5 b A hA hne, fun x hx hx1 => hne x hx ?_⟩
        apply Classical.byContradiction
        intro hb
        exact hx1 ⟨hx, fun hh => hb hh.2⟩) (fun x hx hx1 => by
        have hb : hasBit h.s.mask x.i = true := by
          apply Classical.byContradiction
          intro hb
          exact hx1 ⟨hx, fun hh => hb hh.2⟩
        exact ⟨(hal1 x hx).2 (hm _ (by rw [← hasBit_eq]; exact hb)), q6 x hx hb⟩) (fun x y hx hy hxy => pw_eq hi.alb hx hy hxy) rfl
    exact hN e' _ w' (hi.done hp hh hm hD' g1 (by rw [hr]; exact g3) m1 k3 g5 g6 m2 (hi.le.trans g1))
  | mk A' f b =>
    simp only [hr] at htodo
    obtain ⟨t1, t2⟩ := htodo
    rw [wanted_of (b := true) hl (t1 _ _), if_pos rfl]
    refine ⟨fun _ _ => trivial, ?_⟩
    rw [hsem]
    classical
    have hdis : allocOf P h.s.o.op h.fr (fun A2 f2 => decide (A2 = A' ∧ f2 = f)) = true := by
      rw [t2]; simp
    obtain ⟨A2, f2, ob, x, q1, q2, q3, q4⟩ := allocOf_ok (w := w) (o := h.s.o) (a := a) hi.wr.glob (ook_of (ops := ops) hl) hdis
    obtain ⟨rfl, rfl⟩ := decide_eq_true_iff.1 q1
    have hx0 : (⟨h.s.i, b, A2⟩ : Alc) ∈ al := hi.al2 h hh hnD A2 f2 b hr
    have hone : ∀ y ∈ al, y.i = h.s.i → y = ⟨h.s.i, b, A2⟩ := by
      intro y hy hyi
      obtain ⟨g, g1, g2, f', g3⟩ := hi.al1 y hy
      have := hi.uniq hp g1 hh (g2.trans hyi)
      subst this
      rw [hr] at g3
      obtain ⟨yi, yb, yA⟩ := y
      simp only at hyi g3
      cases g3; rw [hyi]
    obtain ⟨r64, rR⟩ := hi.alr _ hx0
    have hwf := hi.wr.float (x0 := ⟨h.s.i, b, A2⟩) (o := ob) (D' := D') hx0 hnD hD' hone (fun y hy hyb => pw_eq hi.alb hy hx0 hyb) r64 rR
    obtain ⟨u1, u2, u3⟩ := hi.wr.res b (.inr ⟨_, hx0, hnD, rfl⟩)
    have hle := Env.le_bind (c := w.heap.size) (k := none) u2 u3
    rw [q2]
    show N (a.put h.s.o.dst x) _
    refine hN (e.bind b w.heap.size none) _ _ (hi.done hp hh hm hD' hle (by rw [hr]; exact q4 b _ hle (Env.bind_blk ..)) hwf (fun c hc => ?_) (hi.df.mono hle) rfl ⟨fun y hy hD => ?_, fun y z c hy hz hDy hDz h1 h2 => ?_⟩ (hi.le.trans hle))
    · have hlt := (hi.wr.old c (.inl hc)).1
      show (w.heap.push ob)[c]? = _
      rw [Array.getElem?_push_lt hlt, ← hi.old c hc, Array.getElem?_eq_getElem hlt]
    · by_cases q : y = ⟨h.s.i, b, A2⟩
      · subst q
        refine ⟨w.heap.size, ob, Env.bind_blk .., ?_, q3 _ _ hle, fun hF => ?_⟩
        · show (w.heap.push ob)[w.heap.size]? = _
          simp
        · have := (hi.wr.old _ (.inl hF)).1; omega
      · have hDy : D y.i := ((hD' _).1 hD).resolve_right (fun hh' => q (hone y hy hh'))
        obtain ⟨c, o, h1, h2, h3, h4⟩ := hi.al4.here y hy hDy
        have hlt := (Array.getElem?_eq_some_iff.1 h2).1
        refine ⟨c, o, hle.blk _ _ h1, ?_, h3.mono hle, h4⟩
        show (w.heap.push ob)[c]? = _
        rw [Array.getElem?_push_lt hlt, ← h2, Array.getElem?_eq_getElem hlt]
    · have hb : ∀ z ∈ al, D' z.i → ∀ c, (e.bind b w.heap.size none).blk z.b = some c → (z = ⟨h.s.i, b, A2⟩ ∧ c = w.heap.size) ∨ (D z.i ∧ e.blk z.b = some c ∧ c < w.heap.size) := by
        intro z hz hDz c hc
        by_cases q : z = ⟨h.s.i, b, A2⟩
        · subst q; rw [Env.bind_blk] at hc; cases hc; exact .inl ⟨rfl, rfl⟩
        · have hDz : D z.i := ((hD' _).1 hDz).resolve_right (fun hh' => q (hone z hz hh'))
          rw [Env.bind_ne _ (fun hh' => q (pw_eq hi.alb hz hx0 hh'))] at hc
          exact .inr ⟨hDz, hc, (hi.wr.old c (.inr ⟨z, hz, hDz, hc⟩)).1⟩
      rcases hb y hy hDy c h1 with ⟨a1, a2⟩ | ⟨a1, a2, a3⟩ <;> rcases hb z hz hDz c h2 with ⟨b1, b2⟩ | ⟨b1, b2, b3⟩
      · rw [a1, b1]
      · omega
      · omega
      · exact hi.al4.one y z c hy hz a1 b1 a2 b2
  | big v => simp only [hr] at htodo
end
end Go.Ev

/- The evaluator, part 36: regions that draw their order, whole; calls by number. -/
namespace Go.Ev
section
variable {P : Program} {H : CallH} {ops : List Oper} {X : Fix} {pl : List PStep} {fr0 : Fr} {K : Fr → St → Bool} {e0 : Env} {D : Nat → Prop} {hist : List Hs} {rs : List PStep} {fr : Fr} {σ : St} {pend : List Pend} {al : List Alc} {e : Env} {a : Act} {w : World}

/-- A step of the third kind has been, and the evaluator takes it. -/
theorem RInv.took (hp : PlanFit P ops pl) {s : PStep} (hi : RInv P H ops X pl fr0 K e0 D hist (s :: rs) fr σ pend al e a w) (hm : ∀ j, s.mask.testBit j = true → D j) {D' : Nat → Prop} (hD' : ∀ j, D' j ↔ D j ∨ j = s.i)
    {r : Rec} {K' : Fr → Bool} {σ' : St} {pend' : List Pend} {al' : List Alc} {e1 : Env} {y : Value} {a1 : Act} {w1 : World} (hput : putK s.o.dst r.val fr K' = true) (hgo : ∀ fr', K' fr' = true → planRest P H ops K rs fr' σ' pend' al' = true)
    (hle : Env.Le e e1) (hy : VRel e1 r.val y) (hw : WRel P (fixOf X e1 w1 D' (· ∈ al')) e1 σ' w1) (hold : ∀ c, X.F c → w1.heap[c]? = X.H c) (hdf : DRel e1 σ'.df a1.defers) (ht : a1.tmps = a.tmps) (hfl : FloatOk P X e1 w1 D' (· ∈ al'))
    (htodo : ∀ h ∈ hist, ¬ D' h.s.i → Todo P H ops σ al h → Todo P H ops σ' al' h) (hpnd : ∀ p ∈ pend, ¬ s.mask.testBit p.i = true → p ∈ pend') (ha1 : ∀ x ∈ al', x ∈ al) (ha2 : ∀ x ∈ al, ¬ s.mask.testBit x.i = true → x ∈ al') (hab : al'.Pairwise (fun x y => x.b ≠ y.b)) :
    ∃ h fr', RInv P H ops X pl fr0 K e0 D' (h :: hist) rs fr' σ' pend' al' e1 (a1.put s.o.dst y) w1 := by
  have hs : s ∈ pl := by rw [hi.plan]; simp
  have hnD : ¬ D s.i := hi.notyet s (by simp)
  obtain ⟨fr', h1, h2, h3⟩ := put_full hi.cur hput
  have hap := hp.apart
  rw [hi.plan, List.pairwise_append, List.pairwise_cons] at hap
  have hne : ∀ g ∈ hist, g.s.i ≠ s.i := fun g hg => hap.2.2 g.s (by simp only [List.mem_reverse, List.mem_map]; exact ⟨g, hg, rfl⟩) s (by simp)
  have hsz : ∀ d, s.o.dst = some d → d < a.tmps.size := fun d hd => let ⟨u, hu⟩ := h3 d hd; hi.dst_lt hu
  refine ⟨⟨s, fr, r⟩, fr', ⟨by rw [hi.plan]; simp, fun q hq hD => ?_, fun q hq hD j hj => ?_, hgo fr' h1, ⟨hi.cur, hi.hok⟩, h2, hw, hold, by rw [Act.put_defers]; exact hdf, fun t v hc => ?_, fun g hg d hd => ?_, fun g hg hD => ?_, fun g hg hD v hv => ?_,
    fun x hx => ?_, fun g hg hD A f b hr => ?_, hab, hfl, fun x hx => hi.alr x (ha1 x hx), hi.le.trans hle⟩⟩
  · rcases (hD' _).1 hD with h4 | h4
    · exact hi.notyet q (List.mem_cons_of_mem _ hq) h4
    · exact hap.2.1.1 q hq h4.symm
  · rcases (hD' _).1 hD with h4 | h4
    · exact (hD' _).2 (.inl (hi.closed q hq h4 j hj))
    · have := hp.uniq hq hs h4
      subst this
      exact (hD' _).2 (.inl (hm j hj))
  · rcases hc with ⟨g, g1, g2, g3, g4⟩ | ⟨g1, g2⟩
    · rcases List.mem_cons.1 g1 with rfl | g1
      · subst g4
        have g3 : s.o.dst = some t := g3
        exact ⟨y, by rw [g3, Act.put_some, ht, Array.getElem?_setIfInBounds_self_of_lt (hsz t g3)], hy⟩
      · have hD := ((hD' _).1 g2).resolve_right (hne g g1)
        have hd : s.o.dst ≠ some t := fun hd => hp.dst s hs g.s (hi.mem g1) (hne g g1).symm t hd g3
        obtain ⟨x, x1, x2⟩ := hi.tmp t v (.inl ⟨g, g1, hD, g3, g4⟩)
        exact ⟨x, by rw [Act.put_get hd, ht]; exact x1, x2.mono hle⟩
    · have hd : s.o.dst ≠ some t := g1 _ List.mem_cons_self ((hD' _).2 (.inr rfl))
      obtain ⟨x, x1, x2⟩ := hi.tmp t v (.inr ⟨fun q hq hD => g1 q (List.mem_cons_of_mem _ hq) ((hD' _).2 (.inl hD)), g2⟩)
      exact ⟨x, by rw [Act.put_get hd, ht]; exact x1, x2.mono hle⟩
  · rw [Act.put_size, ht]
    rcases List.mem_cons.1 hg with rfl | hg
    · exact hsz d hd
    · exact hi.siz g hg d hd
  · rcases List.mem_cons.1 hg with rfl | hg
    · exact absurd ((hD' _).2 (.inr rfl)) hD
    · exact htodo g hg hD (hi.todo g hg (fun hh => hD ((hD' _).2 (.inl hh))))
  · rcases List.mem_cons.1 hg with rfl | hg
    · exact absurd ((hD' _).2 (.inr rfl)) hD
    · obtain ⟨p, q1, q2, q3⟩ := hi.pnd g hg (fun hh => hD ((hD' _).2 (.inl hh))) v hv
      exact ⟨p, hpnd p q1 (fun hb => hD ((hD' _).2 (.inl (by rw [← q2]; exact hm _ hb)))), q2, q3⟩
  · obtain ⟨g, g1, g2⟩ := hi.al1 x (ha1 x hx)
    exact ⟨g, List.mem_cons_of_mem _ g1, g2⟩
  · rcases List.mem_cons.1 hg with rfl | hg
    · exact absurd ((hD' _).2 (.inr rfl)) hD
    · exact ha2 _ (hi.al2 g hg (fun hh => hD ((hD' _).2 (.inl hh))) A f b hr) (fun hb => hD ((hD' _).2 (.inl (hm _ hb))))

/-- A step of the third kind comes up. -/
theorem RInv.big {ro : Option Nat} {n : Nat} (hp : PlanFit P ops pl) (hnd : ∀ o ∈ ops, NDef ro o.op) (hH : ∀ Y : Fix, Y.opq = X.opq → Y.pan = X.pan → CallHOk P Y H) {Q : Exit → Act → World → Prop} (hX : ∀ (e1 : Env) df c (a : Act) w, Env.Le e0 e1 → DRel e1 df a.defers → Pan P X e1 df c w → Q (.panic c) a w) {s : PStep} (hk : s.kind = 3) (hi : RInv P H ops X pl fr0 K e0 D hist (s :: rs) fr σ pend al e a w) (hm : ∀ j, s.mask.testBit j = true → D j) {D' : Nat → Prop} (hD' : ∀ j, D' j ↔ D j ∨ j = s.i)
    {N : Act → World → Prop} (hN : ∀ hist fr σ pend al e a w, RInv P H ops X pl fr0 K e0 D' hist rs fr σ pend al e a w → N a w) : wpOpIn (wideR ro) n P ops.toArray Q s.i N a w := by
  have hs : s ∈ pl := by rw [hi.plan]; simp
  have hnD : ¬ D s.i := hi.notyet s (by simp)
  obtain ⟨hat, _⟩ := hp.at_ s hs
  have hget : ops.toArray[s.i]? = some s.o := by simpa using hat
  have hsem : ∀ ρ, s.o.semAt (wideR ro).round ρ = execOp ρ s.o := fun ρ => semAt_ndef (hnd _ (List.mem_of_getElem? hat))
  have hap := hp.apart
  rw [hi.plan, List.pairwise_append, List.pairwise_cons] at hap
  have hne : ∀ g ∈ hist, g.s.i ≠ s.i := fun g hg => hap.2.2 g.s (by simp only [List.mem_reverse, List.mem_map]; exact ⟨g, hg, rfl⟩) s (by simp)
  have hal : ∀ x ∈ al, D' x.i ↔ D x.i := fun x hx => by
    rw [hD']
    refine ⟨fun hh => hh.resolve_right ?_, .inl⟩
    intro hxi
    obtain ⟨g, g1, g2, _⟩ := hi.al1 x hx
    exact hne g g1 (g2.trans hxi)
  have hl : ∀ t, t ∈ tmpsOf s.o ops → ∀ v, (TL.get 2 t fr).join = some v → ∃ x, a.tmps[t]? = some x ∧ VRel e v x := fun t ht v hv =>
    hi.look hp (s := s) (B := []) (A := hist) (V := rs) rfl hi.plan (by simp) hnD hm ht (hi.cur t v hv)
  have hg : wantK ops s.o fr
          (absorbK s.mask al σ fun al' σ => dropP s.mask pend fun pend' => dispatch P H s.o.op fr σ fun v σ' => ifB (recheckK pend' al' σ') (putK s.o.dst v fr fun fr' => planRest P H ops K rs fr' σ' pend' al') false)
          (putK s.o.dst .undef fr fun fr' => planRest P H ops K rs fr' σ pend al) = true := by
    have hgo' : natB s.kind false _ = true := hi.go
    rw [hk] at hgo'
    exact hgo'
  unfold wpOpIn
  simp only [hget]
  rcases wantK_sng (all := ops) (o := s.o) (fr := fr) with q | q | q
  · rw [q] at hg; cases hg
  · rw [q] at hg
    rw [wanted_of (b := true) hl (q _ _), if_pos rfl]
    refine ⟨fun _ _ => trivial, ?_⟩
    rw [hsem]
    have hnd : al.Nodup := hi.alb.imp (fun h hh => h (by rw [hh]))
    obtain ⟨σ1, k1, _, k3, k4, _, _⟩ := absorb_ok (D := D) hm al (S := (· ∈ al)) (fun x hx => hx) hi.alb hi.al4 hi.wr hg
    generalize hal1 : al.filter (fun x => ! hasBit s.mask x.i) = al1 at k1
    have hmem : ∀ x, x ∈ al1 ↔ x ∈ al ∧ ¬ s.mask.testBit x.i = true := by
      intro x
      rw [← hal1, List.mem_filter, hasBit_eq]
      simp
    have hsub : ∀ x, x ∈ al1 → x ∈ al := fun x hx => ((hmem x).1 hx).1
    have hw1 : WRel P (fixOf X e w D (· ∈ al1)) e σ1 w := by
      have conv : ∀ x, x ∈ al1 → x ∈ al ∧ ¬ (x ∈ al ∧ hasBit s.mask x.i = true) := fun x hx => ⟨hsub x hx, fun hh => ((hmem x).1 hx).2 (by rw [← hasBit_eq]; exact hh.2)⟩
      refine k4.swap (fun c hc => ⟨?_, rfl⟩) (fun b hb => ?_) rfl rfl rfl
      · rcases hc with g | ⟨y, g1, g2⟩
        · exact .inl g
        · exact .inr ⟨y, conv y g1, g2⟩
      · rcases hb with g | ⟨y, g1, g2⟩
        · exact .inl g
        · exact .inr ⟨y, conv y g1, g2⟩
    have hfl1 : FloatOk P X e w D (· ∈ al1) := hi.al4.sub hsub
    rw [dropP_eq] at k1
    generalize hpe : pend.filter (fun p => ! hasBit s.mask p.i) = pend1 at k1
    have hpm : ∀ p ∈ pend, ¬ s.mask.testBit p.i = true → p ∈ pend1 := by
      intro p h1 h2
      rw [← hpe, List.mem_filter, hasBit_eq]
      exact ⟨h1, by simpa using h2⟩
    refine upon_raw (dispatch_ok (hH (fixOf X e w D (· ∈ al1)) rfl rfl) (o := s.o) (a := a) (ook_of (ops := ops) hl) k1 hw1) (by rw [k3]; exact hi.df) ?_ (fun c w' hpan => hX e σ1.df c a w' hi.le (by rw [k3]; exact hi.df) (Pan.unfloat hi.old hpan))
    intro e' v σ' y a' w' g1 g2 g3 g4 g5 g6
    obtain ⟨c1, c2⟩ := ifB_iff.1 g4
    obtain ⟨f1, f2, f3⟩ := float_kept (D' := D') (S' := (· ∈ al1)) hfl1 g2 g1 (fun x hx => hx) (fun x hx => hal x (hsub x hx)) hi.old
    obtain ⟨h, fr', hfin⟩ := hi.took hp hm hD' (r := .big v) (pend' := pend1) c2 (fun fr' h => h) g1 g3 f1 f3 g5 g6 f2 (fun g hg hD ht => by
        unfold Todo at ht ⊢
        cases hr : g.r with
        | no => simp only [hr] at ht ⊢; exact ht
        | mk A f b => simp only [hr] at ht ⊢; exact ht
        | big v => simp only [hr] at ht
        | read u =>
          simp only [hr] at ht ⊢
          obtain ⟨t1, t2, h0, t3, t4⟩ := ht
          refine ⟨t1, t2, ?_⟩
          have hD0 : ¬ D g.s.i := fun hh => hD ((hD' _).2 (.inl hh))
          obtain ⟨p, p1, p2, p3⟩ := hi.pnd g hg hD0 u hr
          have hp1 : p ∈ pend1 := hpm p p1 (fun hb => hD0 (by rw [← p2]; exact hm _ hb))
          have hchk := recheckK_iff.1 c1 p hp1
          rw [p3] at hchk
          have hchk : absorbK g.s.mask al1 σ' (fun _ τ1 => dispatch P H g.s.o.op g.fr τ1 fun v' _ => avEq 12 u v') = true := hchk
          rcases absorb_sng (m := g.s.mask) al1 σ'.h σ'.df with y | ⟨h', y⟩
          · rw [show absorbK g.s.mask al1 σ' _ = false from y σ'.nx _] at hchk; cases hchk
          · rw [show absorbK g.s.mask al1 σ' _ = _ from y σ'.nx _] at hchk
            rcases dispatch_sng (H := H) t2 g.fr h' σ'.df with z | ⟨u', z⟩
            · rw [z σ'.nx] at hchk
              cases hchk
            · rw [z σ'.nx] at hchk
              rw [avEq_eq 12 u u' hchk]
              exact ⟨h', y, z⟩) hpm hsub (fun x hx hb => (hmem x).2 ⟨hx, hb⟩) (by rw [← hal1]; exact hi.alb.filter _)
    exact hN _ _ _ _ _ _ _ _ hfin
  · rw [q] at hg
    rw [wanted_of (b := false) hl (q _ _), if_neg (by simp)]
    obtain ⟨k1, k2, k3⟩ := float_kept (D' := D') (S' := (· ∈ al)) hi.al4 hi.wr (Env.Le.refl e) (fun x hx => hx) hal hi.old
    obtain ⟨h, fr', hfin⟩ := hi.took hp hm hD' (r := .no) (y := undef) hg (fun fr' h => h) (Env.Le.refl e) ⟨[], rfl, rfl⟩ k1 k3 hi.df rfl k2 (fun g hg hD ht => ht) (fun p hp _ => hp) (fun x hx => hx) (fun x hx _ => hx) hi.alb
    exact ⟨fun _ _ => trivial, hN _ _ _ _ _ _ _ _ hfin⟩

/-- As far as the evaluator can go. -/
theorem RInv.max (hp : PlanFit P ops pl) : ∀ {rs : List PStep} {hist : List Hs} {fr : Fr} {σ : St} {pend : List Pend} {al : List Alc}, RInv P H ops X pl fr0 K e0 D hist rs fr σ pend al e a w →
    ∃ hist rs fr σ pend al, RInv P H ops X pl fr0 K e0 D hist rs fr σ pend al e a w ∧ ∀ s, rs.head? = some s → s.kind = 3
  | [], hist, fr, σ, pend, al, hi => ⟨hist, [], fr, σ, pend, al, hi, by simp⟩
  | s :: rs, hist, fr, σ, pend, al, hi => by
    by_cases hk : s.kind = 3
    · exact ⟨hist, s :: rs, fr, σ, pend, al, hi, by simpa using hk⟩
    · obtain ⟨h, fr', σ', pend', al', hi'⟩ := hi.extend hp hk
      exact RInv.max hp hi'

theorem RInv.finish (_hp : PlanFit P ops pl) (hi : RInv P H ops X pl fr0 K e0 D hist rs fr σ pend al e a w) (hall : ∀ q ∈ pl, D q.i) : Nxt P X e0 K a w := by
  have hrs : rs = [] := by
    cases rs with
    | nil => rfl
    | cons s rs => exact absurd (hall s (by rw [hi.plan]; simp)) (hi.notyet s (by simp))
  subst hrs
  have hD : ∀ g ∈ hist, D g.s.i := fun g hg => hall _ (hi.mem hg)
  have hnd : al.Nodup := hi.alb.imp (fun h hh => h (by rw [hh]))
  have hgo : layAllK al σ (fun σ => K fr σ) = true := hi.go
  obtain ⟨σ', k1, k2, k3⟩ := layAll_ok (D := D) al (S := (· ∈ al)) (fun x hx => ⟨hx, by obtain ⟨g, g1, g2, _⟩ := hi.al1 x hx; rw [← g2]; exact hD g g1⟩) hnd hi.al4 hi.wr hgo
  refine ⟨e, fr, σ', hi.le, k3.swap (fun c hc => ⟨.inl hc, (hi.old c hc).symm⟩) (fun b hb => .inl hb) rfl rfl rfl, fun t v hv => hi.tmp t v ?_, by rw [k2]; exact hi.df, k1⟩
  rcases hi.cur t v hv with ⟨g, g1, g2⟩ | ⟨g1, g2⟩
  · exact .inl ⟨g, g1, hD g g1, g2⟩
  · exact .inr ⟨fun q hq _ => g1 q hq, g2⟩

theorem filter_le {p q : Nat → Bool} : ∀ {l : List Nat}, (∀ x, q x = true → p x = true) → (l.filter q).length ≤ (l.filter p).length
  | [], _ => Nat.le_refl _
  | x :: l, h => by
    have := filter_le (l := l) h
    rw [List.filter_cons, List.filter_cons]
    cases hq : q x with
    | true => rw [h x hq]; simpa using this
    | false => cases p x <;> simp <;> omega
theorem filter_lt {p q : Nat → Bool} : ∀ {l : List Nat}, (∀ x, q x = true → p x = true) → (∃ x ∈ l, p x = true ∧ q x = false) → (l.filter q).length < (l.filter p).length
  | [], _, h => by obtain ⟨x, hx, _⟩ := h; cases hx
  | y :: l, h, ⟨x, hx, h1, h2⟩ => by
    have hle := filter_le (l := l) h
    rw [List.filter_cons, List.filter_cons]
    rcases List.mem_cons.1 hx with rfl | hx
    · rw [h1, h2]; simp; omega
    · have := filter_lt (l := l) h ⟨x, hx, h1, h2⟩
      cases hq : q y with
      | true => rw [h y hq]; simpa using this
      | false => cases p y <;> simp <;> omega

theorem getD_iff {listed : Array Bool} {j : Nat} (h : j < listed.size) : listed.getD j true = listed.getD j false := by
  simp [h]

/-- If some step has not been, one is ready. -/
theorem ready_of (hp : PlanFit P ops pl) {listed : Array Bool} (hsz : listed.size = ops.length) {q : PStep} (hq : q ∈ pl) (hnD : ¬ listed.getD q.i false = true) : Region.ready .any ops.toArray listed ≠ [] := by
  have key : ∀ (l U : List PStep), pl = U ++ l → (∀ x ∈ U, listed.getD x.i false = true) → q ∈ l → ∃ U s V, pl = U ++ s :: V ∧ (∀ x ∈ U, listed.getD x.i false = true) ∧ ¬ listed.getD s.i false = true := by
    intro l
    induction l with
    | nil => intro U _ _ h; cases h
    | cons s l ih =>
      intro U hpl hU hql
      by_cases hD : listed.getD s.i false = true
      · refine ih (U ++ [s]) (by rw [hpl]; simp) (fun x hx => ?_) ?_
        · rcases List.mem_append.1 hx with hx | hx
          · exact hU x hx
          · rw [List.mem_singleton.1 hx]; exact hD
        · rcases List.mem_cons.1 hql with rfl | h
          · exact absurd hD hnD
          · exact h
      · exact ⟨U, s, l, hpl, hU, hD⟩
  obtain ⟨U, s, V, h1, h2, h3⟩ := key pl [] rfl (by simp) hq
  have hs : s ∈ pl := by rw [h1]; simp
  obtain ⟨hat, _⟩ := hp.at_ s hs
  have hlt : s.i < ops.length := (List.getElem?_eq_some_iff.1 hat).1
  have hmem : s.i ∈ Region.ready .any ops.toArray listed := by
    rw [mem_ready]
    refine ⟨by rw [getD_iff (by omega)]; simpa using h3, s.o, by simpa using hat, fun ed he hb => ?_⟩
    obtain ⟨z, hz, hzi⟩ := hp.pre U s V h1 ed.on (hp.dir s hs ed (by simpa using he) hb)
    rw [← hzi]; exact h2 z hz
  intro h
  rw [h] at hmem; cases hmem

theorem draw_any {ro : Option Nat} {n : Nat} (hp : PlanFit P ops pl) (hnd : ∀ o ∈ ops, NDef ro o.op) (hH : ∀ Y : Fix, Y.opq = X.opq → Y.pan = X.pan → CallHOk P Y H) {Q : Exit → Act → World → Prop} (hX : ∀ (e1 : Env) df c (a : Act) w, Env.Le e0 e1 → DRel e1 df a.defers → Pan P X e1 df c w → Q (.panic c) a w) (hQ : ∀ a w, Nxt P X e0 K a w → Q .normal a w) : ∀ (fuel : Nat) (listed : Array Bool) (a : Act) (w : World), listed.size = ops.length →
    ((List.range ops.length).filter fun j => ! listed.getD j true).length ≤ fuel → (∃ hist rs fr σ pend al e, RInv P H ops X pl fr0 K e0 (fun j => listed.getD j false = true) hist rs fr σ pend al e a w) → wpAnyIn (wideR ro) n P .any ops.toArray Q fuel listed a w := by
  have done : ∀ {listed : Array Bool} {a : Act} {w : World}, listed.size = ops.length → (∃ hist rs fr σ pend al e, RInv P H ops X pl fr0 K e0 (fun j => listed.getD j false = true) hist rs fr σ pend al e a w) → Region.ready .any ops.toArray listed = [] → Q .normal a w := by
    intro listed a w hsz ⟨hist, rs, fr, σ, pend, al, e, hi⟩ hr
    refine hQ a w (hi.finish hp fun q hq => ?_)
    apply Classical.byContradiction
    intro hn
    exact ready_of hp hsz hq hn hr
  intro fuel
  induction fuel with
  | zero =>
    intro listed a w hsz hf hi
    have hr : Region.ready .any ops.toArray listed = [] := by
      apply List.eq_nil_iff_forall_not_mem.2
      intro j hj
      obtain ⟨h1, o, h2, _⟩ := mem_ready.1 hj
      have hlt : j < ops.length := by
        have := (Array.getElem?_eq_some_iff.1 h2).1
        simpa using this
      have : j ∈ (List.range ops.length).filter fun j => ! listed.getD j true := List.mem_filter.2 ⟨List.mem_range.2 hlt, by rw [h1]; rfl⟩
      have h0 := List.length_pos_of_mem this
      omega
    exact ⟨hr, done hsz hi hr⟩
  | succ fuel ih =>
    intro listed a w hsz hf hi
    refine ⟨done hsz hi, fun i hir => ?_⟩
    obtain ⟨h1, o, h2, h3⟩ := mem_ready.1 hir
    have hlt : i < ops.length := by
      have := (Array.getElem?_eq_some_iff.1 h2).1
      simpa using this
    have hsz' : (listed.setIfInBounds i true).size = ops.length := by simpa using hsz
    have hcnt : ((List.range ops.length).filter fun j => ! (listed.setIfInBounds i true).getD j true).length ≤ fuel := by
      have : ((List.range ops.length).filter fun j => ! (listed.setIfInBounds i true).getD j true).length < ((List.range ops.length).filter fun j => ! listed.getD j true).length := by
        refine filter_lt (fun x hx => ?_) ⟨i, List.mem_range.2 hlt, by rw [h1]; rfl, ?_⟩
        · by_cases q : i = x
          · subst q; rw [h1]; rfl
          · rwa [getD_set_ne true q] at hx
        · have hl' : i < listed.size := by omega
          simp [hl']
      omega
    have hD' : ∀ j, (listed.setIfInBounds i true).getD j false = true ↔ listed.getD j false = true ∨ j = i := by
      intro j
      by_cases q : i = j
      · subst q
        have hl' : i < listed.size := by omega
        simp [hl']
      · rw [getD_set_ne false q]
        exact ⟨.inl, fun h => h.resolve_right (fun hh => q hh.symm)⟩
    have hnD : ¬ listed.getD i false = true := by rw [← getD_iff (by omega), h1]; simp
    obtain ⟨hist0, rs0, fr0', σ0, pend0, al0, e, hi0⟩ := hi
    obtain ⟨hist, rs, fr, σ, pend, al, hi, hmax⟩ := hi0.max hp
    have hm : ∀ s ∈ pl, s.i = i → ∀ j, s.mask.testBit j = true → listed.getD j false = true := by
      intro s hs hsi j hj
      obtain ⟨hat, _⟩ := hp.at_ s hs
      have ho : s.o = o := by
        rw [hsi] at hat
        have h2' : ops[i]? = some o := by simpa using h2
        rw [hat] at h2'; cases h2'; rfl
      obtain ⟨ed, he, hb, hj⟩ := hp.clo s hs j hj
      rw [ho] at he
      have hon := h3 ed (by simpa using he) hb
      rcases hj with rfl | ⟨q, hq, hqi, hqj⟩
      · exact hon
      · exact hi.closed q hq (by show listed.getD q.i false = true; rw [hqi]; exact hon) j hqj
    obtain ⟨s, hs, hsi⟩ := hp.cover i hlt
    subst hsi
    have hs' := hs
    rw [hi.plan, List.mem_append] at hs'
    rcases hs' with hs' | hs'
    · simp only [List.mem_reverse, List.mem_map] at hs'
      obtain ⟨g, hg, rfl⟩ := hs'
      exact hi.step hp hnd hH hX hg hnD (hm g.s hs rfl) hD' (fun e a w hi' => ih _ a w hsz' hcnt ⟨_, _, _, _, _, _, e, hi'⟩)
    · cases rs with
      | nil => cases hs'
      | cons r rs =>
        have hk := hmax r rfl
        rcases List.mem_cons.1 hs' with rfl | hs'
        · exact hi.big hp hnd hH hX hk (hm s hs rfl) hD' (fun hist fr σ pend al e a w hi' => ih _ a w hsz' hcnt ⟨_, _, _, _, _, _, e, hi'⟩)
        · exfalso
          have := hp.bar _ r rs hi.plan hk s hs'
          exact hi.notyet r (by simp) (hm s hs rfl _ this)

theorem drawK_ok {cH : PH} (hmix : P.follows .mixedOrders = true) (hH : ∀ (p : AV → St → Bool) (Y : Fix), Y.opq = X.opq → Y.pan = p → CallHOk P Y (cH p)) : DrawOk P X cH := by
  intro PC ro n e σ fr a w K Q id ops hnd h hw0 hf hd hQ hP
  have hw := hw0.on (fun v τ => PC v none τ)
  obtain ⟨pl, hpl, h1⟩ := optK_iff.1 h
  have hp := planOf_fit hpl
  rw [planK_eq] at h1
  refine wpIn_region_any hmix ?_
  have hsz : ops.size = ops.toList.length := by simp
  have harr : ops = ops.toList.toArray := by simp
  have key := draw_any (ro := ro) (n := n) (X := X.on fun v τ => PC v none τ) (fr0 := fr) (K := K) (e0 := e) (Q := Q) hp hnd (fun Y h1 h2 => hH _ Y h1 h2) (fun e1 df c a w hle hdr hpan => by
      obtain ⟨v, x, e', σ', g1, g2, g3, g4, g5, g6⟩ := hpan
      exact hP c a w ⟨v, x, none, e', σ', hle.trans g1, g2.off, g3, g4, (fun fr hfr => nomatch hfr), (by rw [g6]; exact hdr.mono g1), g5⟩) (fun a w hn => by
      obtain ⟨e', fr', σ', g1, g2, g3⟩ := hn
      exact hQ a w ⟨e', fr', σ', g1, g2.off, g3⟩) ops.size (Array.replicate ops.size false) a { w with drawn := w.drawn + 1 } (by simp) (by
    have := List.length_filter_le (fun j => ! (Array.replicate ops.size false).getD j true) (List.range ops.toList.length)
    simpa using this) ⟨[], pl, fr, σ, [], [], e, ⟨by simp, fun q _ => ?_, fun q _ hD => ?_, h1, trivial, fun t v hv => .inr ⟨by simp, hv⟩, ?_, fun c hc => (hw.old c hc).2, hd, fun t v hc => ?_, by simp, by simp, by simp, by simp, by simp, .nil, ⟨fun x hx => absurd hx (by simp), fun x y c hx => absurd hx (by simp)⟩, by simp, Env.Le.refl e⟩⟩
  · rw [← harr] at key; exact key
  · simp only [Array.getD_eq_getD_getElem?]
    intro hh
    by_cases q' : q.i < ops.size
    · simp [q'] at hh
    · simp [q'] at hh
  · exfalso
    simp only [Array.getD_eq_getD_getElem?] at hD
    by_cases q' : q.i < ops.size
    · simp [q'] at hD
    · simp [q'] at hD
  · refine (hw.drawn _).swap (fun c hc => ⟨?_, rfl⟩) (fun b hb => ?_) rfl rfl rfl
    · rcases hc with g | ⟨y, g1, _⟩
      · exact g
      · cases g1
    · rcases hb with g | ⟨y, g1, _⟩
      · exact g
      · cases g1
  · rcases hc with ⟨g, g1, _⟩ | ⟨_, g2⟩
    · cases g1
    · exact hf t v g2
end

/-- Calls by number, whole: whatever stays fixed. -/
theorem callN_all {P : Program} {I : ConH} {J : DefH} {R : RecH} (hN : NoCount P) (hmix : P.follows .mixedOrders = true) (hI : ∀ X, IOk P X I) (hJ : ∀ X, JOk P X J) (hRec : ∀ X, ROk P X R) (m : Nat) : ∀ n X, CallHOk P X (callN P I J R m n X.pan)
  | 0, X => ⟨fun h _ _ => absurd (show false = true from h) (by simp), fun h _ _ _ => absurd (show false = true from h) (by simp), fun h _ _ => absurd (show none = some _ from h) (by simp), rfl⟩
  | n + 1, X => by
    have ih := callN_all hN hmix hI hJ hRec m n
    have hH : ∀ p, CallHOk P (X.on p) (callN P I J R m n p) := fun p => ih (X.on p)
    have hD : DrawOk P X (callN P I J R m n) := drawK_ok hmix fun p Y _ hp => by subst hp; exact ih Y
    refine ⟨fun {e σ w f args xs K} h hl hw => ?_, fun {e σ w b l args xs K} h hb hl hw => ?_, fun h _ _ => absurd (show none = some _ from h) (by simp), rfl⟩
    · have h0 : optB (I f) (enterK P J R (callN P I J R m n) X.pan m f args σ K) (fun g => g args σ K (enterK P J R (callN P I J R m n) X.pan m f args σ K)) = true := h
      cases hi : I f with
      | some g => rw [hi, optB_some] at h0; exact (hI X hi h0 hl hw).elim (fun h1 => enterK_ok hN hH hD (hJ X) (hRec X) h1 hl hw) id
      | none => rw [hi, optB_none] at h0; exact enterK_ok hN hH hD (hJ X) (hRec X) h0 hl hw
    · exact roundK_ok hN hH hD (show roundK P (callN P I J R m n) m b args σ K = true from h) hb hl hw
end Go.Ev
