/-
  An evaluator of the model's programs over abstract values and memory, part B: its operations are sound.
-/
import Derived.Test.YtgpoclcmapnloaaGreatDoorEvA
import Derived.IntWalk
import Derived.Laws.BytesString
import Derived.Laws.Append
import Derived.Laws.AppendOwn
import Derived.Lib.UnsafeStr
import Derived.Laws.NewFold
import Derived.MapKept
import Derived.Calls
import Derived.CallsIn
set_option linter.unusedVariables false
set_option linter.unusedSimpArgs false
/- The evaluator, part 13: operators. -/
namespace Go.Ev

theorem toU_eq (k : IntKind) (a : Int) : toU k a = (BitVec.ofInt k.bits a).toNat := by
  rw [BitVec.toNat_ofInt]
  show Int.toNat (a % Int.ofNat (2 ^ k.bits)) = _
  rfl
theorem bitsK_eq {k : IntKind} {r : Nat} {K : AV → Bool} : bitsK k r K = K (.int k (k.wrap r)) := by
  unfold bitsK; rw [forceN_eq, intK_eq]; rfl

section
variable {P : Program} {X : Fix} {e : Env} {σ : St} {w : World}

theorem intBinK_ok {op : BinOp} {k : IntKind} {a b : Int} {t : TypeId} {K : AV → Bool} (h : intBinK op k a b K = true) :
    ∃ v z, K v = true ∧ VRel e v z ∧ (binOp op t (.int k a) (.int k b)).run P w = .ok z w := by
  cases op with
  | add => rw [show intBinK .add k a b K = intK k (addI a b) K from rfl, intK_eq, addI_eq] at h; exact ⟨_, _, h, rfl, by simp [binOp, Op.intArith]⟩
  | sub => rw [show intBinK .sub k a b K = intK k (addI a (Int.neg b)) K from rfl, intK_eq, addI_eq] at h; exact ⟨_, _, h, rfl, by simp [binOp, Op.intArith]; rfl⟩
  | mul => rw [show intBinK .mul k a b K = intK k (Int.mul a b) K from rfl, intK_eq] at h; exact ⟨_, _, h, rfl, by simp [binOp, Op.intArith]⟩
  | quo =>
    rw [show intBinK .quo k a b K = ifB (eqI b 0) false (intK k (Int.tdiv a b) K) from rfl, eqI_eq] at h
    by_cases q : b = 0
    · rw [show decide (b = 0) = true by simp [q], ifB_true] at h; cases h
    · rw [show decide (b = 0) = false by simp [q], ifB_false, intK_eq] at h
      exact ⟨_, _, h, rfl, by simp [binOp, Op.intDiv, q]⟩
  | rem =>
    rw [show intBinK .rem k a b K = ifB (eqI b 0) false (forceI (Int.tmod a b) fun x => K (.int k x)) from rfl, eqI_eq] at h
    by_cases q : b = 0
    · rw [show decide (b = 0) = true by simp [q], ifB_true] at h; cases h
    · rw [show decide (b = 0) = false by simp [q], ifB_false, forceI_eq] at h
      exact ⟨_, _, h, rfl, by simp [binOp, Op.intDiv, q]⟩
  | and => rw [show intBinK .and k a b K = bitsK k (Nat.land (toU k a) (toU k b)) K from rfl, bitsK_eq, toU_eq, toU_eq] at h; exact ⟨_, _, h, rfl, by simp only [binOp, Op.intBits]; simp⟩
  | or => rw [show intBinK .or k a b K = bitsK k (Nat.lor (toU k a) (toU k b)) K from rfl, bitsK_eq, toU_eq, toU_eq] at h; exact ⟨_, _, h, rfl, by simp only [binOp, Op.intBits]; simp⟩
  | xor => rw [show intBinK .xor k a b K = bitsK k (Nat.xor (toU k a) (toU k b)) K from rfl, bitsK_eq, toU_eq, toU_eq] at h; exact ⟨_, _, h, rfl, by simp only [binOp, Op.intBits]; simp⟩
  | shl => cases h
  | shr => cases h
  | andNot =>
    rw [show intBinK .andNot k a b K = bitsK k (Nat.land (toU k a) (Nat.sub (Nat.sub (Nat.pow 2 k.bits) 1) (toU k b))) K from rfl, bitsK_eq, toU_eq, toU_eq] at h
    refine ⟨_, _, h, rfl, ?_⟩
    simp only [binOp, Op.intBits]
    simp only [ne_eq, not_true_eq_false, if_false, Sem.run_pure, BitVec.toNat_and, BitVec.toNat_not]
    rfl
  | eql =>
    rw [show intBinK .eql k a b K = forceB (eqI a b) (fun r => K (.bool r)) from rfl, forceB_eq, eqI_eq] at h
    exact ⟨_, _, h, rfl, by simp [binOp, Op.intCmp]; by_cases q : a = b <;> simp [q]⟩
  | neq =>
    rw [show intBinK .neq k a b K = forceB (ifB (eqI a b) false true) (fun r => K (.bool r)) from rfl, forceB_eq, eqI_eq] at h
    refine ⟨_, _, h, rfl, ?_⟩
    by_cases q : a = b <;> simp [binOp, Op.intCmp, q, ifB]
  | lss =>
    rw [show intBinK .lss k a b K = forceB (ifB (leI b a) false true) (fun r => K (.bool r)) from rfl, forceB_eq, leI_eq] at h
    refine ⟨_, _, h, rfl, ?_⟩
    by_cases q : b ≤ a
    · have : ¬ a < b := by omega
      simp [binOp, Op.intCmp, q, this, ifB]
    · have : a < b := by omega
      simp [binOp, Op.intCmp, q, this, ifB]
  | leq =>
    rw [show intBinK .leq k a b K = forceB (leI a b) (fun r => K (.bool r)) from rfl, forceB_eq, leI_eq] at h
    exact ⟨_, _, h, rfl, by simp [binOp, Op.intCmp]⟩
  | gtr =>
    rw [show intBinK .gtr k a b K = forceB (ifB (leI a b) false true) (fun r => K (.bool r)) from rfl, forceB_eq, leI_eq] at h
    refine ⟨_, _, h, rfl, ?_⟩
    by_cases q : a ≤ b
    · have : ¬ b < a := by omega
      simp [binOp, Op.intCmp, q, this, ifB]
    · have : b < a := by omega
      simp [binOp, Op.intCmp, q, this, ifB]
  | geq =>
    rw [show intBinK .geq k a b K = forceB (leI b a) (fun r => K (.bool r)) from rfl, forceB_eq, leI_eq] at h
    exact ⟨_, _, h, rfl, by simp [binOp, Op.intCmp]⟩

theorem shiftK_ok {op : BinOp} {k k' : IntKind} {a b : Int} {t : TypeId} {K : AV → Bool} (h : shiftK op k a b K = true) :
    ∃ v z, K v = true ∧ VRel e v z ∧ (binOp op t (.int k a) (.int k' b)).run P w = .ok z w := by
  cases b with
  | negSucc m => cases h
  | ofNat m =>
    have hm : (cond (Nat.ble m k.bits) m k.bits) = min (Int.ofNat m).toNat k.bits := by
      show _ = min m k.bits
      cases q : Nat.ble m k.bits with
      | true => have := Nat.le_of_ble_eq_true q; simp; omega
      | false => have := Nat.lt_of_not_le fun hh => by rw [Nat.ble_eq_true_of_le hh] at q; cases q
                 simp; omega
    have c0 : ¬ (Int.ofNat m < 0) := by have := Int.natCast_nonneg m; show ¬ ((m : Int) < 0); omega
    have hp : Int.ofNat (Nat.pow 2 (min (Int.ofNat m).toNat k.bits)) = (2 : Int) ^ (min (Int.ofNat m).toNat k.bits) := by
      show ((2 ^ _ : Nat) : Int) = _
      simp
    cases op with
    | shl =>
      have h1 : forceN (cond (Nat.ble m k.bits) m k.bits) (fun n => intK k (Int.mul a (.ofNat (Nat.pow 2 n))) K) = true := h
      rw [forceN_eq, intK_eq, hm, hp] at h1
      refine ⟨_, _, h1, rfl, ?_⟩
      simp only [binOp, Op.shift, if_neg c0, Sem.run_pure]
      rfl
    | shr =>
      have h1 : forceN (cond (Nat.ble m k.bits) m k.bits) (fun n => forceI (Int.fdiv a (.ofNat (Nat.pow 2 n))) fun x => K (.int k x)) = true := h
      rw [forceN_eq, forceI_eq, hm, hp] at h1
      refine ⟨_, _, h1, rfl, ?_⟩
      simp only [binOp, Op.shift, if_neg c0, Sem.run_pure]
    | _ =>
      have h1 : forceN (cond (Nat.ble m k.bits) m k.bits) (fun _ => false) = true := h
      rw [forceN_eq] at h1; cases h1

theorem bytesL_append (l n l' n' : Nat) : bytesL (l + l') (n % 256 ^ l + n' * 256 ^ l) = bytesL l n ++ bytesL l' n' := by
  have hmod : (n % 256 ^ l + n' * 256 ^ l) % 256 ^ l = n % 256 ^ l := by rw [Nat.add_mul_mod_self_right, Nat.mod_mod]
  have hdiv : (n % 256 ^ l + n' * 256 ^ l) / 256 ^ l = n' := by
    rw [Nat.add_mul_div_right _ _ (Nat.pow_pos (by decide)), Nat.div_eq_of_lt (Nat.mod_lt _ (Nat.pow_pos (by decide))), Nat.zero_add]
  apply List.ext_getElem?
  intro i
  by_cases hi : i < l
  · rw [List.getElem?_append_left (by simpa [bytesL] using hi)]
    have : i < l + l' := by omega
    simp only [bytesL, List.getElem?_map, List.getElem?_range, hi, this, Option.map_some]
    rw [← byteAt_mod hi (n := n % 256 ^ l + n' * 256 ^ l), hmod, byteAt_mod hi]
  · rw [List.getElem?_append_right (by simpa [bytesL] using hi)]
    by_cases hj : i < l + l'
    · have : i - (bytesL l n).length < l' := by simp [bytesL]; omega
      simp only [bytesL, List.getElem?_map, List.getElem?_range, hj, Option.map_some]
      have e1 : (List.range l').length = l' := by simp
      have e2 : i - (List.map (byteAt n) (List.range l)).length < l' := by simpa [bytesL] using this
      simp only [List.getElem?_range, e2, Option.map_some]
      have e3 : (List.map (byteAt n) (List.range l)).length = l := by simp
      rw [e3]
      congr 1
      unfold byteAt
      have : i = l + (i - l) := by omega
      rw [this, Nat.pow_add, ← Nat.div_div_eq_div_mul, hdiv]
      simp
    · have : ¬ (i - l < l') := by omega
      simp [bytesL, hj, this]
theorem strOf_append (l n l' n' : Nat) : strOf l n ++ strOf l' n' = strOf (l + l') (n % 256 ^ l + n' * 256 ^ l) := by
  have : ∀ a b : ByteArray, a.data.toList = b.data.toList → a = b := fun ⟨⟨_⟩⟩ ⟨⟨_⟩⟩ h => by cases h; rfl
  apply this
  rw [strOf_data, bytesL_append]
  simp [strOf]

theorem strBinK_ok {op : BinOp} {l n l' n' : Nat} {t : TypeId} {K : AV → Bool} (h : strBinK op l n l' n' K = true) :
    ∃ v z, K v = true ∧ VRel e v z ∧ (binOp op t (.string (strOf l n)) (.string (strOf l' n'))).run P w = .ok z w := by
  cases op with
  | add =>
    obtain ⟨h1, h2⟩ := ifB_iff.1 (show ifB (Nat.ble (Nat.add l l') 9223372036854775807) _ false = true from h)
    rw [forceN_eq, forceN_eq] at h2
    have := Nat.le_of_ble_eq_true h1
    refine ⟨_, _, h2, rfl, ?_⟩
    have c : ¬ (((strOf l n).size + (strOf l' n').size : Nat) : Int) > IntKind.i64.max := by
      rw [size_strOf, size_strOf]
      have : l + l' ≤ 9223372036854775807 := this
      have e1 : IntKind.i64.max = 9223372036854775807 := by decide
      rw [e1]; omega
    simp only [binOp, Op.stringOp, if_neg c, Sem.run_pure, strOf_append]
    rfl
  | eql =>
    rw [show strBinK .eql l n l' n' K = forceB (strEqB l n l' n') (fun r => K (.bool r)) from rfl, forceB_eq, strEqB_eq] at h
    exact ⟨_, _, h, rfl, by simp [binOp, Op.stringOp]⟩
  | neq =>
    rw [show strBinK .neq l n l' n' K = forceB (ifB (strEqB l n l' n') false true) (fun r => K (.bool r)) from rfl, forceB_eq, strEqB_eq] at h
    refine ⟨_, _, h, rfl, ?_⟩
    simp only [binOp, Op.stringOp, Sem.run_pure]
    cases ((strOf l n).toList == (strOf l' n').toList) <;> rfl
  | _ => cases h

theorem eqOpK_ok {op : BinOp} {t : TypeId} {a b : AV} {x y : Value} {K : AV → Bool} (h : eqOpK P op t a b σ K = true) (hx : VRel e a x) (hy : VRel e b y) (hw : WRel P X e σ w) :
    ∃ r, K (.bool r) = true ∧ ((op = .eql ∧ (Op.equal t x y).run P w = .ok r w) ∨ (op = .neq ∧ (Op.equal t x y).run P w = .ok (!r) w)) := by
  have hf : eqFuel ≤ Op.maxDepth := by decide
  cases op with
  | eql =>
    obtain ⟨r, h1, h2⟩ := eqvK_ok hf (show eqvK P eqFuel t a b σ (fun r => K (.bool r)) = true from h) hx hy hw
    exact ⟨r, h1, .inl ⟨rfl, h2⟩⟩
  | neq =>
    obtain ⟨r, h1, h2⟩ := eqvK_ok hf (show eqvK P eqFuel t a b σ (fun r => forceB (ifB r false true) fun r => K (.bool r)) = true from h) hx hy hw
    rw [show (fun r => forceB (ifB r false true) fun r => K (.bool r)) r = forceB (ifB r false true) (fun r => K (.bool r)) from rfl, forceB_eq] at h1
    exact ⟨_, h1, .inr ⟨rfl, by rw [show Op.equal t x y = Op.equalIn Op.maxDepth t x y from rfl, h2]; cases r <;> rfl⟩⟩
  | _ => cases h

/-- No number, no string. -/
def noNum : Value → Bool
  | .int _ _ | .float _ _ | .complex _ _ _ | .string _ => false
  | _ => true
theorem binOp_eql {t : TypeId} {x y : Value} (h : noNum x = true) : binOp .eql t x y = (do pure (.bool (← Op.equal t x y))) := by
  cases x <;> first | rfl | cases h
theorem binOp_neq {t : TypeId} {x y : Value} (h : noNum x = true) : binOp .neq t x y = (do pure (.bool (!(← Op.equal t x y)))) := by
  cases x <;> first | rfl | cases h
theorem eqOp_bin {op : BinOp} {t : TypeId} {a b : AV} {x y : Value} {K : AV → Bool} (h : eqOpK P op t a b σ K = true) (hx : VRel e a x) (hy : VRel e b y) (hw : WRel P X e σ w) (hn : noNum x = true) :
    ∃ v z, K v = true ∧ VRel e v z ∧ (binOp op t x y).run P w = .ok z w := by
  obtain ⟨r, h1, (⟨rfl, h2⟩ | ⟨rfl, h2⟩)⟩ := eqOpK_ok h hx hy hw
  · exact ⟨_, .bool r, h1, rfl, by rw [binOp_eql hn]; simp [h2]⟩
  · exact ⟨_, .bool r, h1, rfl, by rw [binOp_neq hn]; simp [h2]⟩

theorem noGuard_ok {t : TypeId} (h : noGuard P t = true) : P.eqGuardType P.depth t = false := by
  unfold noGuard at h
  cases q : P.eqGuardType P.depth t with
  | false => rfl
  | true => rw [q] at h; cases h
theorem eqGuard_none {op : BinOp} {t : TypeId} {x y : Operand} {a b : Value} (h1 : a ≠ .nilIface) (h2 : ∀ l, a ≠ .agg l) : (eqGuard op t x y a b).run P w = .ok () w := by
  cases op <;> first | rfl | (cases a <;> first | rfl | exact absurd rfl h1 | exact absurd rfl (h2 _))
theorem eqGuard_agg {op : BinOp} {t : TypeId} {x y : Operand} {l : Array Value} {b : Value} (h : noGuard P t = true) : (eqGuard op t x y (.agg l) b).run P w = .ok () w := by
  have hn := noGuard_ok h
  cases op <;> first | rfl | (cases b <;> first | rfl | simp [eqGuard, run_program, hn])
theorem eqGuard_nil {op : BinOp} {t : TypeId} {x y : Operand} {b : Value} (h : isConstB x = true ∨ isConstB y = true ∨ b ≠ .nilIface) : (eqGuard op t x y .nilIface b).run P w = .ok () w := by
  have key : b ≠ .nilIface → (eqGuard op t x y .nilIface b).run P w = .ok () w := fun h => by
    cases op <;> first | rfl | (cases b <;> first | rfl | exact absurd rfl h)
  rcases h with h | h | h
  · cases x with
    | const v => cases op <;> first | rfl | (cases b <;> rfl)
    | _ => cases h
  · cases y with
    | const v => cases op <;> first | rfl | (cases b <;> first | rfl | (cases x <;> rfl))
    | _ => cases h
  · exact key h

theorem binK_ok {op : BinOp} {t : TypeId} {x y : Operand} {a b : AV} {a' b' : Value} {K : AV → Bool} (h : binK P op t x y a b σ K = true) (hx : VRel e a a') (hy : VRel e b b') (hw : WRel P X e σ w) :
    ∃ v z, K v = true ∧ VRel e v z ∧ (eqGuard op t x y a' b').run P w = .ok () w ∧ (binOp op t a' b').run P w = .ok z w := by
  have fin : (eqGuard op t x y a' b').run P w = .ok () w → (∃ v z, K v = true ∧ VRel e v z ∧ (binOp op t a' b').run P w = .ok z w) →
      ∃ v z, K v = true ∧ VRel e v z ∧ (eqGuard op t x y a' b').run P w = .ok () w ∧ (binOp op t a' b').run P w = .ok z w :=
    fun g ⟨v, z, h1, h2, h3⟩ => ⟨v, z, h1, h2, g, h3⟩
  cases a with
  | opq i => cases h
  | tuple l => cases h
  | int k n =>
    obtain ⟨k', m, rfl, h0⟩ := onInt_iff.1 (show onInt b _ = true from h)
    cases hx; cases hy
    refine fin (eqGuard_none (by simp) (by simp)) ?_
    cases q : isShift op with
    | true => rw [q, ifB_true] at h0; exact shiftK_ok h0
    | false =>
      rw [q, ifB_false] at h0
      obtain ⟨h1, h2⟩ := ifB_iff.1 h0
      have := ikN_inj h1
      subst this
      exact intBinK_ok h2
  | str l n =>
    obtain ⟨l', n', rfl, h0⟩ := onStr_iff.1 (show onStr b _ = true from h)
    cases hx; cases hy
    exact fin (eqGuard_none (by simp) (by simp)) (strBinK_ok h0)
  | agg l =>
    obtain ⟨h1, h2⟩ := ifB_iff.1 (show ifB (noGuard P t) _ false = true from h)
    have hx' := hx
    obtain ⟨xs, _, rfl⟩ := hx
    exact fin (eqGuard_agg h1) (eqOp_bin h2 hx' hy hw rfl)
  | niface =>
    obtain ⟨h1, h2⟩ := ifB_iff.1 (show ifB (guardOk P x y t .niface b) _ false = true from h)
    have hx' := hx
    cases hx
    refine fin ?_ (eqOp_bin h2 hx' hy hw rfl)
    have h3 : ifB (isConstB x) true (ifB (isConstB y) true (onIfaceN b false fun _ _ => true)) = true := h1
    apply eqGuard_nil
    cases q : isConstB x with
    | true => exact .inl rfl
    | false =>
      cases r : isConstB y with
      | true => exact .inr (.inl rfl)
      | false =>
        rw [q, ifB_false, r, ifB_false] at h3
        rcases onIfaceN_iff.1 h3 with ⟨_, hh⟩ | ⟨t', u, rfl, _⟩
        · cases hh
        · obtain ⟨z, _, rfl⟩ := hy
          exact .inr (.inr (by simp))
  | eslice => have hx' := hx; obtain ⟨_, _, rfl⟩ := hx; exact fin (eqGuard_none (by simp) (by simp)) (eqOp_bin (show eqOpK P op t _ b σ K = true from h) hx' hy hw rfl)
  | nilf => have hx' := hx; cases hx; exact fin (eqGuard_none (by simp) (by simp)) (eqOp_bin (show eqOpK P op t _ b σ K = true from h) hx' hy hw rfl)
  | nilm => have hx' := hx; cases hx; exact fin (eqGuard_none (by simp) (by simp)) (eqOp_bin (show eqOpK P op t _ b σ K = true from h) hx' hy hw rfl)
  | map m => have hx' := hx; obtain ⟨_, _, rfl⟩ := hx; exact fin (eqGuard_none (by simp) (by simp)) (eqOp_bin (show eqOpK P op t _ b σ K = true from h) hx' hy hw rfl)
  | func f c d => have hx' := hx; obtain ⟨_, _, _, _, _, _, rfl⟩ := hx; exact fin (eqGuard_none (by simp) (by simp)) (eqOp_bin (show eqOpK P op t _ b σ K = true from h) hx' hy hw rfl)
  | nils => have hx' := hx; cases hx; exact fin (eqGuard_none (by simp) (by simp)) (eqOp_bin (show eqOpK P op t _ b σ K = true from h) hx' hy hw rfl)
  | iface t' u => have hx' := hx; obtain ⟨_, _, rfl⟩ := hx; exact fin (eqGuard_none (by simp) (by simp)) (eqOp_bin (show eqOpK P op t _ b σ K = true from h) hx' hy hw rfl)
  | nilp => have hx' := hx; cases hx; exact fin (eqGuard_none (by simp) (by simp)) (eqOp_bin (show eqOpK P op t _ b σ K = true from h) hx' hy hw rfl)
  | slice b o l c => have hx' := hx; obtain ⟨_, _, _, _, _, rfl⟩ := hx; exact fin (eqGuard_none (by simp) (by simp)) (eqOp_bin (show eqOpK P op t _ _ σ K = true from h) hx' hy hw rfl)
  | ptr b o => have hx' := hx; obtain ⟨_, _, rfl⟩ := hx; exact fin (eqGuard_none (by simp) (by simp)) (eqOp_bin (show eqOpK P op t _ _ σ K = true from h) hx' hy hw rfl)
  | bool b => have hx' := hx; cases hx; exact fin (eqGuard_none (by simp) (by simp)) (eqOp_bin (show eqOpK P op t _ _ σ K = true from h) hx' hy hw rfl)

theorem unK_ok {op : UnOp} {v : AV} {x : Value} {K : AV → Bool} (h : unK op v K = true) (hv : VRel e v x) :
    ∃ u z, K u = true ∧ VRel e u z ∧ (Op.unary op x).run P w = .ok z w := by
  cases op with
  | neg =>
    obtain ⟨k, n, rfl, h0⟩ := onInt_iff.1 (show onInt v _ = true from h)
    cases hv
    rw [intK_eq, addI_eq] at h0
    exact ⟨_, _, h0, rfl, by simp [Op.unary, Op.intArith]; rfl⟩
  | xor =>
    obtain ⟨k, n, rfl, h0⟩ := onInt_iff.1 (show onInt v _ = true from h)
    cases hv
    rw [bitsK_eq, toU_eq, toU_eq] at h0
    refine ⟨_, _, h0, rfl, ?_⟩
    have e1 : (cond k.signed (-1) k.max) = (if k.signed then -1 else k.max) := by cases k.signed <;> rfl
    rw [e1]
    simp only [Op.unary, Op.intBits, Sem.run_pure, BitVec.toNat_xor]
    rfl
  | not =>
    obtain ⟨b, rfl, h0⟩ := onBool_iff.1 (show onBool v _ = true from h)
    cases hv
    rw [forceB_eq] at h0
    exact ⟨_, _, h0, rfl, by cases b <;> simp [Op.unary, ifB]⟩
  | _ => cases h
end
end Go.Ev

/- The evaluator, part 14: bytes, append, copy. -/
namespace Go.Ev

def byteVs (l n : Nat) : List AV := (List.range l).map fun j => .int .u8 (Int.ofNat (n / 256 ^ j % 256))
theorem strCells_ok {n : Nat} {K : List AV → Bool} : ∀ {l : Nat} {acc : List AV},
    Nat.rec (motive := fun _ => List AV → Bool) (fun acc => K acc)
    (fun j ih acc => forceN (Nat.mod (Nat.div n (Nat.pow 256 j)) 256) fun c => ih (.int .u8 (.ofNat c) :: acc)) l acc = true → K (byteVs l n ++ acc) = true
  | 0, acc, h => h
  | l + 1, acc, h => by
    have h0 : forceN (Nat.mod (Nat.div n (Nat.pow 256 l)) 256) (fun c => Nat.rec (motive := fun _ => List AV → Bool) (fun acc => K acc)
      (fun j ih acc => forceN (Nat.mod (Nat.div n (Nat.pow 256 j)) 256) fun c => ih (.int .u8 (.ofNat c) :: acc)) l (.int .u8 (.ofNat c) :: acc)) = true := h
    rw [forceN_eq] at h0
    have h1 := strCells_ok h0
    have e1 : byteVs (l + 1) n = byteVs l n ++ [AV.int .u8 (Int.ofNat (Nat.mod (Nat.div n (Nat.pow 256 l)) 256))] := by
      simp only [byteVs, List.range_succ, List.map_append, List.map_cons, List.map_nil]; rfl
    rw [e1, List.append_assoc]
    exact h1
theorem strCells_eq {l n : Nat} {K : List AV → Bool} (h : strCells l n K = true) : K (byteVs l n) = true := by
  have := strCells_ok (acc := []) (show _ = true from h)
  simpa using this
theorem byteVs_rel (e : Env) (l n : Nat) : LRel e (byteVs l n) ((bytesL l n).map fun b => Value.int .u8 b.toNat) := by
  apply LRel.of_get
  · simp [byteVs, bytesL]
  · intro i v x hv hx
    simp only [byteVs, bytesL, List.getElem?_map, Option.map_eq_some_iff] at hv hx
    obtain ⟨j, hj, rfl⟩ := hv
    obtain ⟨b, ⟨j', hj', rfl⟩, rfl⟩ := hx
    rw [hj] at hj'; cases hj'
    show Value.int .u8 _ = Value.int .u8 _
    congr 1
theorem byteVs_length (l n : Nat) : (byteVs l n).length = l := by simp [byteVs]

/-- Bytes as a number. -/
theorem packCellsK_ok {e : Env} : ∀ {l : List AV} {xs : List Value} {K : Nat → Bool}, packCellsK l K = true → LRel e l xs →
    ∃ bs : List UInt8, K (packL bs) = true ∧ xs = bs.map (fun b => Value.int .u8 b.toNat)
  | [], xs, K, h, hl => by cases hl; exact ⟨[], h, rfl⟩
  | v :: l, xs, K, h, hl => by
    obtain ⟨x, ys, r1, r2, rfl⟩ := hl
    obtain ⟨k, n, rfl, h0⟩ := onInt_iff.1 (show onInt v (fun k n => ifB (Nat.beq (ikN k) 4) (Int.rec (fun c => ifB (Nat.ble c 255) (packCellsK l fun r => forceN (Nat.add c (Nat.mul 256 r)) K) false) (fun _ => false) n) false) = true from h)
    cases r1
    obtain ⟨hk, h1⟩ := ifB_iff.1 h0
    have : k = .u8 := by cases k <;> first | rfl | exact absurd hk (by decide)
    subst this
    cases n with
    | negSucc m => cases h1
    | ofNat c =>
      obtain ⟨h2, h3⟩ := ifB_iff.1 (show ifB (Nat.ble c 255) (packCellsK l fun r => forceN (Nat.add c (Nat.mul 256 r)) K) false = true from h1)
      have hc : c ≤ 255 := Nat.le_of_ble_eq_true h2
      obtain ⟨bs, h4, e2⟩ := packCellsK_ok h3 r2
      rw [forceN_eq] at h4
      have : (UInt8.ofNat c).toNat = c := by simp; omega
      refine ⟨UInt8.ofNat c :: bs, by rw [packL_cons, this]; exact h4, ?_⟩
      simp only [List.map_cons, this, ← e2]
      rfl
theorem strOf_pack (bs : List UInt8) : strOf bs.length (packL bs) = ⟨bs.toArray⟩ := by
  unfold strOf; rw [bytesL_packL]

section
variable {P : Program} {X : Fix} {e : Env} {σ : St} {w : World}

/-- What the evaluator read of a slice or a string is what the model reads, whatever was drawn. -/
def Firsts (P : Program) (w : World) (size n : Nat) (x : Value) (xs : List Value) : Prop :=
  ∀ d, (Builtin.firstCells size n x).run P { w with drawn := d } = .ok xs.toArray { w with drawn := d }

theorem readSlK_ok {v : AV} {x : Value} {size : Nat} {K : List AV → Nat → Bool} (h : readSlK v size σ K = true) (hv : VRel e v x) (hw : WRel P X e σ w) :
    ∃ l n xs b cp, K l n = true ∧ LRel e l xs ∧ x = .slice b n cp ∧ l.length = n * size ∧ Firsts P w size n x xs ∧ (v ≠ .nils → ∃ a, b = some a) := by
  have zero : ∀ (a : Addr) (cp : Nat), Firsts P w size 0 (.slice (some a) 0 cp) [] := fun a cp d => by
    simp only [Builtin.firstCells, Nat.zero_mul]
    exact run_loadCells_list _ _ [] (by simp)
  rcases onSliceE_iff.1 h with ⟨rfl, h0⟩ | ⟨rfl, h0⟩ | ⟨b, o, len, c, rfl, h0⟩
  · cases hv
    exact ⟨[], 0, [], none, 0, h0, rfl, rfl, by simp, fun d => by simp [Builtin.firstCells], fun hn => absurd rfl hn⟩
  · obtain ⟨a, cp, rfl⟩ := hv
    exact ⟨[], 0, [], some a, cp, h0, rfl, rfl, by simp, zero a cp, fun _ => ⟨a, rfl⟩⟩
  · obtain ⟨a, cp, hb, hle, hs, rfl⟩ := hv
    cases hz : Nat.beq len 0 with
    | true =>
      rw [hz, ifB_true] at h0
      have : len = 0 := Nat.eq_of_beq_eq_true hz
      subst this
      exact ⟨[], 0, [], _, cp, h0, rfl, rfl, by simp, zero _ cp, fun _ => ⟨_, rfl⟩⟩
    | false =>
      rw [hz, ifB_false] at h0
      obtain ⟨A, hA, h1⟩ := hGetK_iff.1 h0
      obtain ⟨cs, n, el, op, fz, st, rfl, h2⟩ := onCells_iff.1 h1
      obtain ⟨l, hl, hr, hk⟩ := rdK_ok h2
      rw [List.append_nil] at hk
      obtain ⟨c', ob, hc', hob, ⟨C, lo, hi, rfl, hrel⟩, _⟩ := hw.blk b _ hA
      rw [hb] at hc'; cases hc'
      have key : ∀ d, ∃ xs, LRel e l xs ∧ (loadCells ⟨a, o, none⟩ l.length).run P { w with drawn := d } = .ok xs.toArray { w with drawn := d } :=
        fun d => run_loadCells_rel (w := { w with drawn := d }) hrel.rel hob hr
      obtain ⟨xs, r1, r2⟩ := key 0
      refine ⟨l, len, xs, _, cp, hk, r1, rfl, hl, fun d => ?_, fun _ => ⟨_, rfl⟩⟩
      obtain ⟨ys, s1, s2⟩ := key d
      have : ys = xs := by
        have hx : ∀ (d : Nat) (xs : List Value), (loadCells ⟨a, o, none⟩ l.length).run P { w with drawn := d } = .ok xs.toArray { w with drawn := d } →
            (∀ (j : Nat) v, l[j]? = some v → ∃ x, C[o + j]? = some x) → True := fun _ _ _ _ => trivial
        have q : ∀ j, j < l.length → ∃ x, C[o + j]? = some x := fun j hj => by
          obtain ⟨x, hx, _⟩ := hrel.rel _ _ (hr j _ (List.getElem?_eq_getElem hj))
          exact ⟨x, hx⟩
        obtain ⟨zs, hz1, hz2⟩ : ∃ zs : List Value, zs.length = l.length ∧ ∀ (j : Nat) v, zs[j]? = some v → C[o + j]? = some v := by
          refine ⟨(List.range l.length).map (fun j => C[o + j]?.getD .nilFunc), by simp, fun j v hj => ?_⟩
          simp only [List.getElem?_map, Option.map_eq_some_iff] at hj
          obtain ⟨i, hi', rfl⟩ := hj
          have : j < l.length := by
            have := (List.getElem?_eq_some_iff.1 hi').1
            simpa using this
          rw [List.getElem?_range this] at hi'; cases hi'
          obtain ⟨x, hx⟩ := q j this
          rw [hx]; rfl
        have f : ∀ d, (loadCells ⟨a, o, none⟩ l.length).run P { w with drawn := d } = .ok zs.toArray { w with drawn := d } := fun d => by
          rw [← hz1]
          exact run_loadCells_list _ _ zs fun j v hv => by rw [Addr.add_none, cell?_of (w := { w with drawn := d }) hob]; exact hz2 j v hv
        rw [f] at r2 s2
        cases r2
        have := (Result.ok.inj s2).1
        exact (congrArg Array.toList this).symm
      subst this
      simp only [Builtin.firstCells]
      rw [show len * size = l.length from hl.symm]
      exact s2

theorem srcK_ok {v : AV} {x : Value} {size : Nat} {K : List AV → Nat → Bool} (h : srcK v size σ K = true) (hv : VRel e v x) (hw : WRel P X e σ w) :
    ∃ l n xs, K l n = true ∧ LRel e l xs ∧ (∀ w2, (Builtin.lenOf x).run P w2 = .ok n w2) ∧ Firsts P w size n x xs := by
  cases v with
  | eslice =>
    obtain ⟨a, cp, rfl⟩ := hv
    refine ⟨[], 0, [], h, rfl, fun w2 => rfl, fun d => ?_⟩
    simp only [Builtin.firstCells, Nat.zero_mul]
    exact run_loadCells_list _ _ [] (by simp)
  | nils =>
    cases hv
    exact ⟨[], 0, [], h, rfl, fun w2 => rfl, fun d => by simp [Builtin.firstCells]⟩
  | str l n =>
    cases hv
    obtain ⟨_, h0⟩ := ifB_iff.1 (show ifB (Nat.beq size 1) (strCells l n fun cs => K cs l) false = true from h)
    have h1 := strCells_eq h0
    refine ⟨_, l, _, h1, byteVs_rel e l n, fun w2 => by simp [Builtin.lenOf, size_strOf], fun d => ?_⟩
    have : (strOf l n).extract 0 l = strOf l n := by
      have q : (strOf l n).size = l := size_strOf l n
      have := ByteArray.extract_zero_size (b := strOf l n)
      rw [q] at this; exact this
    simp only [Builtin.firstCells, Sem.run_pure, this]
    congr 1
    apply Array.ext'
    simp [strOf]
  | slice b o len c =>
    obtain ⟨l, n, xs, b', cp, h1, h2, rfl, h3, h4, _⟩ := readSlK_ok (show readSlK (.slice b o len c) size σ K = true from h) hv hw
    exact ⟨l, n, xs, h1, h2, fun w2 => rfl, h4⟩
  | _ => exact nomatch (show false = true from h)

theorem layK_ok {l : List AV} {o : Nat} {c : Cs} {K : Cs → Bool} (h : layK l o c K = true) :
    (∀ v ∈ l, isCell v = true) ∧ ∃ c', K c' = true ∧ ∀ j v, c'.get j = some v → (o ≤ j ∧ l[j - o]? = some v) ∨ ((j < o ∨ o + l.length ≤ j) ∧ c.get j = some v) := by
  unfold layK at h
  rw [forceN_eq, lenL_eq] at h
  cases hb : Nat.ble (Nat.add o l.length) (Nat.pow 16 (Nat.succ c.h)) with
  | true =>
    rw [hb, ifB_true] at h
    obtain ⟨h1, c', h2, h3⟩ := wrK_ok h
    refine ⟨h1, c', h2, fun j v hv => ?_⟩
    rw [h3] at hv
    by_cases q : o ≤ j ∧ j < o + l.length
    · rw [if_pos q] at hv; exact .inl ⟨q.1, hv⟩
    · rw [if_neg q] at hv; exact .inr ⟨by omega, hv⟩
  | false =>
    rw [hb, ifB_false] at h
    obtain ⟨old, h1, h2, h3⟩ := rdK_ok h
    rw [List.append_nil] at h3
    obtain ⟨c1, h4, h5⟩ := fillK_ok h3
    obtain ⟨h6, c', h7, h8⟩ := wrK_ok h4
    refine ⟨h6, c', h7, fun j v hv => ?_⟩
    rw [h8] at hv
    by_cases q : o ≤ j ∧ j < o + l.length
    · rw [if_pos q] at hv; exact .inl ⟨q.1, hv⟩
    · rw [if_neg q, h5] at hv
      by_cases q2 : 0 ≤ j ∧ j < 0 + old.length
      · rw [if_pos q2] at hv
        have := h2 (j - 0) v hv
        refine .inr ⟨by omega, ?_⟩
        simpa using this
      · rw [if_neg q2, get_eCs] at hv; cases hv

theorem nx_ge (hw : WRel P X e σ w) : 64 ≤ σ.nx := by
  apply Nat.le_of_not_lt
  intro h
  have h1 := (hw.fresh 63 (by omega)).1
  rw [hw.glob 63 (by decide)] at h1; cases h1

theorem secondInt_ok {ts : Array TypeId} (hnz : appendK.secondInt P ts.toList = false) :
    ts[1]? = none ∨ ∃ t d, ts[1]? = some t ∧ P.underlying t = some d ∧ ∀ k, d ≠ .int k := by
  unfold appendK.secondInt at hnz
  rw [Array.getElem?_toList] at hnz
  split at hnz
  · rename_i t ht1
    split at hnz
    · cases hnz
    · rename_i d hd hne
      exact .inr ⟨t, d, ht1, hne, fun k hk => hd k hk⟩
    · cases hnz
  · rename_i ht1
    exact .inl ht1

/-- An append that moves. -/
theorem run_append_moved {ts : Array TypeId} {st el ty : TypeId} {i : TypeInfo} {z : Value} (h0 : ts[0]? = some st) (hnz : appendK.secondInt P ts.toList = false) (ht : P.underlying st = some (.slice el)) (hi : P.info? el = some i)
    (hz : i.zero = some z) {base : Option Addr} {sLen sCap n : Nat} {x : Value} {olds news : List Value} (hlen : ∀ w2, (Builtin.lenOf x).run P w2 = .ok n w2) (hn : sCap < sLen + n)
    (hfit : Builtin.nextslicecap (sLen + n) sCap * i.bytes ≤ 281474976710656) (h63 : sLen + n ≤ 9223372036854775807)
    (ho : Firsts P w i.size sLen (.slice base sLen sCap) olds) (hx : Firsts P w i.size n x news) :
    (Builtin.append_ ts ty #[.slice base sLen sCap, x]).run P w =
      .ok (.slice (some ⟨w.heap.size, 0, none⟩) (sLen + n) (grownCap w (sLen + n) sCap el))
        (w.drew.alloc (.cells (olds.toArray ++ news.toArray ++ Builtin.zeroCells z.cells (grownCap w (sLen + n) sCap el - (sLen + n))) el)) := by
  have hn' : ¬ (sLen + n ≤ sCap) := by omega
  have h63' : ¬ (((sLen + n : Nat) : Int) > IntKind.i64.max) := by
    have e1 : IntKind.i64.max = 9223372036854775807 := by decide
    rw [e1]; omega
  have h48' : ¬ (281474976710656 < Builtin.nextslicecap (sLen + n) sCap * i.bytes) := by omega
  have ho' := ho (w.drawn + 1)
  have hx' := hx (w.drawn + 1)
  have hts := secondInt_ok hnz
  have h63'' : ¬ (9223372036854775807 < (sLen : Int) + (n : Int)) := by omega
  have h48'' : ¬ ((281474976710656 : Nat) < Builtin.nextslicecap (sLen + n) sCap * i.bytes) := h48'
  have ho2 : (Builtin.firstCells i.size sLen (Value.slice base sLen sCap)).run P w.drew = .ok olds.toArray w.drew := ho'
  have hx2 : (Builtin.firstCells i.size n x).run P w.drew = .ok news.toArray w.drew := hx'
  have hap : ∀ z : Array Value, olds.toArray ++ (news.toArray ++ z) = (olds ++ news).toArray ++ z := fun z => by
    apply Array.ext'; simp [List.append_assoc]
  rcases hts with h1 | ⟨t, d, h1, hd, hne⟩
  · simp [Builtin.append_, h0, h1, run_underlying ht, sizeOf, typeInfo, zeroValue, hi, hz, hlen, hn', h63'', h48'', Question.forced, ho2, hx2, newRow, grownCap, hap]
  · simp [Builtin.append_, h0, h1, run_underlying ht, run_underlying hd, sizeOf, typeInfo, zeroValue, hi, hz, hlen, hn', h63'', h48'', Question.forced, ho2, hx2, newRow, grownCap, hap]

/-- An append in its place. -/
theorem run_append_there {ts : Array TypeId} {st el ty : TypeId} {i : TypeInfo} (h0 : ts[0]? = some st) (hnz : appendK.secondInt P ts.toList = false) (ht : P.underlying st = some (.slice el)) (hi : P.info? el = some i)
    {base : Option Addr} {sLen sCap n : Nat} {x : Value} {news : List Value} (hlen : ∀ w2, (Builtin.lenOf x).run P w2 = .ok n w2) (hn : sLen + n ≤ sCap) (hx : Firsts P w i.size n x news) {w' : World}
    (hst : ∀ a, base = some a → (storeCells (a.add (sLen * i.size)) news).run P w = .ok () w') (hno : base = none → w' = w) :
    (Builtin.append_ ts ty #[.slice base sLen sCap, x]).run P w = .ok (.slice base (sLen + n) sCap) w' := by
  have hx2 : (Builtin.firstCells i.size n x).run P w = .ok news.toArray w := hx w.drawn
  have hts := secondInt_ok hnz
  have hb : base = none ∨ ∃ a, base = some a := by cases base with | none => exact .inl rfl | some a => exact .inr ⟨a, rfl⟩
  rcases hb with rfl | ⟨a, rfl⟩
  · rw [hno rfl]
    rcases hts with h1 | ⟨t, d, h1, hd, hne⟩
    · simp [Builtin.append_, h0, h1, run_underlying ht, sizeOf, typeInfo, hi, hlen, hn, hx2]
    · simp [Builtin.append_, h0, h1, run_underlying ht, run_underlying hd, sizeOf, typeInfo, hi, hlen, hn, hx2]
  · have hs := hst a rfl
    rcases hts with h1 | ⟨t, d, h1, hd, hne⟩
    · simp [Builtin.append_, h0, h1, run_underlying ht, sizeOf, typeInfo, hi, hlen, hn, hx2, hs]
    · simp [Builtin.append_, h0, h1, run_underlying ht, run_underlying hd, sizeOf, typeInfo, hi, hlen, hn, hx2, hs]

/-- What an append of so many elements does in its place. -/
def There (P : Program) (ts : Array TypeId) (ty : TypeId) (w : World) (size n : Nat) (x : Value) (news : List Value) : Prop :=
  ∀ (base : Option Addr) (sLen sCap : Nat) (w' : World), sLen + n ≤ sCap → (∀ a, base = some a → (storeCells (a.add (sLen * size)) news).run P w = .ok () w') → (base = none → w' = w) →
    (Builtin.append_ ts ty #[.slice base sLen sCap, x]).run P w = .ok (.slice base (sLen + n) sCap) w'
/-- What it does when it moves. -/
def Moved (P : Program) (ts : Array TypeId) (ty : TypeId) (w : World) (el : TypeId) (size bytes n : Nat) (z x : Value) (news : List Value) : Prop :=
  ∀ (base : Option Addr) (sLen sCap : Nat) (olds : List Value), sCap < sLen + n → Builtin.nextslicecap (sLen + n) sCap * bytes ≤ 281474976710656 → sLen + n ≤ 9223372036854775807 → Firsts P w size sLen (.slice base sLen sCap) olds →
    (Builtin.append_ ts ty #[.slice base sLen sCap, x]).run P w =
      .ok (.slice (some ⟨w.heap.size, 0, none⟩) (sLen + n) (grownCap w (sLen + n) sCap el))
        (w.drew.alloc (.cells (olds.toArray ++ news.toArray ++ Builtin.zeroCells z.cells (grownCap w (sLen + n) sCap el - (sLen + n))) el))

theorem get_repL (l : List AV) : ∀ (n j : Nat), (repL l n)[j]? = if j < n * l.length then l[j % l.length]? else none
  | 0, j => by rw [Nat.zero_mul, if_neg (Nat.not_lt_zero j)]; rfl
  | n + 1, j => by
    show (l ++ repL l n)[j]? = _
    by_cases h : j < l.length
    · rw [List.getElem?_append_left h, Nat.mod_eq_of_lt h, if_pos (by rw [Nat.add_mul]; omega)]
    · rw [List.getElem?_append_right (by omega), get_repL l n (j - l.length)]
      have e1 : (n + 1) * l.length = n * l.length + l.length := by rw [Nat.add_mul, Nat.one_mul]
      have e2 : j % l.length = (j - l.length) % l.length := Nat.mod_eq_sub_mod (by omega)
      rw [e1, e2]
      by_cases g : j - l.length < n * l.length
      · rw [if_pos g, if_pos (by omega)]
      · rw [if_neg g, if_neg (by omega)]
theorem length_repL (l : List AV) : ∀ (n : Nat), (repL l n).length = n * l.length
  | 0 => by rw [Nat.zero_mul]; rfl
  | n + 1 => by
    show (l ++ repL l n).length = _
    rw [List.length_append, length_repL l n, Nat.add_mul, Nat.one_mul, Nat.add_comm]
theorem get_zeroCells (z : Array Value) (n j : Nat) : (Builtin.zeroCells z n).toList[j]? = if j < n * z.size then z[j % z.size]? else none := by
  unfold Builtin.zeroCells
  simp only [Array.toList_map, Array.toList_range, List.getElem?_map]
  by_cases h : j < n * z.size
  · have hz : 0 < z.size := by
      rcases Nat.eq_zero_or_pos z.size with h0 | h0
      · rw [h0] at h; omega
      · exact h0
    have hm := Nat.mod_lt j hz
    rw [List.getElem?_range h, if_pos h, Option.map_some, Array.getElem?_eq_getElem hm]
    simp [hm]
  · rw [if_neg h]
    rw [List.getElem?_eq_none (by simpa using h)]; rfl
theorem rel_of_get {e : Env} : ∀ {l : List AV} {xs : List Value}, l.length = xs.length → (∀ (j : Nat) v x, l[j]? = some v → xs[j]? = some x → VRel e v x) → LRel e l xs
  | [], [], _, _ => rfl
  | [], _ :: _, h, _ => by cases h
  | _ :: _, [], h, _ => by cases h
  | v :: l, x :: xs, h, g => ⟨x, xs, g 0 v x rfl rfl, rel_of_get (by simpa using h) (fun j a b h1 h2 => g (j + 1) a b (by simpa using h1) (by simpa using h2)), rfl⟩
theorem LRel.at {e : Env} {l : List AV} {xs : List Value} (h : LRel e l xs) {j : Nat} {v : AV} {x : Value} (h1 : l[j]? = some v) (h2 : xs[j]? = some x) : VRel e v x := by
  obtain ⟨y, hy, hr⟩ := h.get h1
  rw [h2] at hy; cases hy; exact hr
theorem repL_rel {e : Env} {za : AV} {z : Value} (n : Nat) (h : LRel e (cellsOf za) z.cells.toList) : LRel e (repL (cellsOf za) n) (Builtin.zeroCells z.cells n).toList := by
  have hl : (cellsOf za).length = z.cells.size := h.length
  refine rel_of_get (by rw [length_repL, hl]; simp [Builtin.zeroCells]) fun j v x h1 h2 => ?_
  rw [get_repL] at h1
  rw [get_zeroCells] at h2
  by_cases g : j < n * z.cells.size
  · rw [if_pos (by rw [hl]; exact g)] at h1
    rw [if_pos g] at h2
    rw [hl] at h1
    exact h.at h1 (by rw [Array.getElem?_toList]; exact h2)
  · rw [if_neg g] at h2; cases h2

theorem there_src {ts : Array TypeId} {st el ty : TypeId} {i : TypeInfo} (h0 : ts[0]? = some st) (hnz : appendK.secondInt P ts.toList = false) (ht : P.underlying st = some (.slice el)) (hi : P.info? el = some i)
    {n : Nat} {x : Value} {news : List Value} (hlen : ∀ w2, (Builtin.lenOf x).run P w2 = .ok n w2) (hx : Firsts P w i.size n x news) : There P ts ty w i.size n x news :=
  fun _ _ _ _ hn hst hno => run_append_there h0 hnz ht hi hlen hn hx hst hno
theorem moved_src {ts : Array TypeId} {st el ty : TypeId} {i : TypeInfo} {z : Value} (h0 : ts[0]? = some st) (hnz : appendK.secondInt P ts.toList = false) (ht : P.underlying st = some (.slice el)) (hi : P.info? el = some i) (hz : i.zero = some z)
    {n : Nat} {x : Value} {news : List Value} (hlen : ∀ w2, (Builtin.lenOf x).run P w2 = .ok n w2) (hx : Firsts P w i.size n x news) : Moved P ts ty w el i.size i.bytes n z x news :=
  fun _ _ _ _ hn hfit h63 ho => run_append_moved h0 hnz ht hi hz hlen hn hfit h63 ho hx

theorem there_zero {ts : Array TypeId} {st el ty t1 : TypeId} {k1 : IntKind} {i : TypeInfo} {z : Value} {n : Nat} (h0 : ts[0]? = some st) (h1 : ts[1]? = some t1) (hd : P.underlying t1 = some (.int k1)) (ht : P.underlying st = some (.slice el)) (hi : P.info? el = some i)
    (hz : i.zero = some z) (hzs : z.cells.size = i.size) (hn1 : n ≤ 100000) (hn2 : n * i.bytes ≤ 281474976710656) : There P ts ty w i.size n (.int .i64 n) (Builtin.zeroCells z.cells n).toList := by
  intro base sLen sCap w' hn hst hno
  have hw : IntKind.i64.wrap (n : Int) = (n : Int) := Go.IntWalk.i64_in _ (by omega)
  have hai : ∀ w2, (asInt (.int .i64 (n : Int))).run P w2 = .ok (n : Int) w2 := fun w2 => rfl
  have e1 : ¬ ((n : Int) < 0) := by omega
  have e2 : ¬ ((n : Int) * (i.bytes : Int) > 281474976710656) := by
    have : ((n * i.bytes : Nat) : Int) ≤ 281474976710656 := by exact Int.ofNat_le.2 hn2
    rw [Int.natCast_mul] at this; omega
  have e3 : n * i.size = 0 → (Builtin.zeroCells z.cells n) = #[] := fun h => by
    apply Array.ext'
    simp [Builtin.zeroCells, hzs, h]
  by_cases hz0 : n * i.size = 0
  · rw [e3 hz0] at hst
    rcases base with _ | a
    · rw [hno rfl]
      simp [Builtin.append_, hai, h0, h1, run_underlying ht, run_underlying hd, sizeOf, typeInfo, hi, hw, e1, e2, hz0, hn]
    · have hs := hst a rfl
      simp [Builtin.append_, hai, h0, h1, run_underlying ht, run_underlying hd, sizeOf, typeInfo, hi, hw, e1, e2, hz0, hn, hs]
  · rcases base with _ | a
    · rw [hno rfl]
      simp [Builtin.append_, hai, h0, h1, run_underlying ht, run_underlying hd, sizeOf, typeInfo, zeroValue, hi, hz, hw, e1, e2, hn]
    · have hs := hst a rfl
      simp [Builtin.append_, hai, h0, h1, run_underlying ht, run_underlying hd, sizeOf, typeInfo, zeroValue, hi, hz, hw, e1, e2, hz0, hn, hs]

theorem moved_zero {ts : Array TypeId} {st el ty t1 : TypeId} {k1 : IntKind} {i : TypeInfo} {z : Value} {n : Nat} (h0 : ts[0]? = some st) (h1 : ts[1]? = some t1) (hd : P.underlying t1 = some (.int k1)) (ht : P.underlying st = some (.slice el)) (hi : P.info? el = some i)
    (hz : i.zero = some z) (hzs : z.cells.size = i.size) (hn1 : n ≤ 100000) (hn2 : n * i.bytes ≤ 281474976710656) : Moved P ts ty w el i.size i.bytes n z (.int .i64 n) (Builtin.zeroCells z.cells n).toList := by
  intro base sLen sCap olds hn hfit h63 ho
  have hw : IntKind.i64.wrap (n : Int) = (n : Int) := Go.IntWalk.i64_in _ (by omega)
  have hai : ∀ w2, (asInt (.int .i64 (n : Int))).run P w2 = .ok (n : Int) w2 := fun w2 => rfl
  have e1 : ¬ ((n : Int) < 0) := by omega
  have e2 : ¬ ((n : Int) * (i.bytes : Int) > 281474976710656) := by
    have : ((n * i.bytes : Nat) : Int) ≤ 281474976710656 := Int.ofNat_le.2 hn2
    rw [Int.natCast_mul] at this; omega
  have e3 : n * i.size = 0 → (Builtin.zeroCells z.cells n) = #[] := fun h => by
    apply Array.ext'
    simp [Builtin.zeroCells, hzs, h]
  have hn' : ¬ (sLen + n ≤ sCap) := by omega
  have h63'' : ¬ (9223372036854775807 < (sLen : Int) + (n : Int)) := by omega
  have h48'' : ¬ ((281474976710656 : Nat) < Builtin.nextslicecap (sLen + n) sCap * i.bytes) := by omega
  have ho2 : (Builtin.firstCells i.size sLen (Value.slice base sLen sCap)).run P w.drew = .ok olds.toArray w.drew := ho (w.drawn + 1)
  by_cases hz0 : n * i.size = 0
  · rw [e3 hz0]
    simp [Builtin.append_, hai, h0, h1, run_underlying ht, run_underlying hd, sizeOf, typeInfo, zeroValue, hi, hz, hw, e1, e2, hz0, hn', h63'', h48'', Question.forced, ho2, newRow, grownCap]
  · simp [Builtin.append_, hai, h0, h1, run_underlying ht, run_underlying hd, sizeOf, typeInfo, zeroValue, hi, hz, hw, e1, e2, hz0, hn', h63'', h48'', Question.forced, ho2, newRow, grownCap]
end
end Go.Ev

/- The evaluator, part 15: append and copy. -/
namespace Go.Ev
section
variable {P : Program} {X : Fix} {e : Env} {σ : St} {w : World}

/-- A result that answers to what the evaluator goes on with. -/
def OkV (P : Program) (X : Fix) (e : Env) (σ : St) (K : AV → St → Bool) (r : Result Value) : Prop :=
  ∃ v y e' σ' w', r = .ok y w' ∧ Env.Le e e' ∧ WRel P X e' σ' w' ∧ VRel e' v y ∧ K v σ' = true ∧ σ'.df = σ.df

theorem newOpen_ok {el : TypeId} {i : TypeInfo} {c : Cs} {C : Array Value} {n cp len : Nat} {fz : Nat} {st : Bool} {w1 : World} {K : AV → St → Bool}
    (h : newBlkK (.cells c n el true fz st) σ (fun b σ => K (.slice b 0 len none) σ) = true) (hw : WRel P X e σ w) (hi : P.info? el = some i) (hC : CRel e c C) (hn : n ≤ C.size) (hsz : C.size = cp * i.size) (hle : len ≤ cp)
    (hbd : ∀ j, n ≤ j → c.get j = none) (h1 : w1.os = w.os) (h2 : w1.output = w.output) (h3 : w1.tape = w.tape) (h4 : w1.heap = w.heap.push (.cells C el (0, 0))) :
    OkV P X e σ K (.ok (.slice (some ⟨w.heap.size, 0, none⟩) len cp) w1) := by
  obtain ⟨hs, hk⟩ := newBlkK_iff.1 h
  obtain ⟨f1, f2, _⟩ := hw.fresh σ.nx (Nat.le_refl _)
  have hle' := Env.le_bind (e := e) (c := w.heap.size) (k := some cp) f1 f2
  refine ⟨_, _, e.bind σ.nx w.heap.size (some cp), _, w1, rfl, hle', hw.new hs (nx_ge hw) h4 ?_ h1 h2 h3, ?_, hk, rfl⟩
  · refine ⟨C, 0, 0, rfl, ⟨hC.mono hle', hn, (fun h => by cases h), fun _ => ⟨cp, i, Env.bind_cap .., hi, hsz⟩, fun j _ _ hj => by omega, fun _ => ⟨rfl, rfl⟩, hbd⟩⟩
  · exact ⟨w.heap.size, cp, Env.bind_blk .., hle, fun _ => Env.bind_cap .., rfl⟩

theorem growK_ok {el : TypeId} {i : TypeInfo} {size bytes need sLen sCap n : Nat} {old l : List AV} {olds news : List Value} {z : Value} {K : AV → St → Bool}
    (h : growK el size bytes need old l σ K = true) (hw : WRel P X e σ w) (hi : P.info? el = some i) (hsz : i.size = size) (hby : i.bytes = bytes) (hzs : z.cells.size = size)
    (ro : LRel e old olds) (rn : LRel e l news) (lo : old.length = sLen * size) (ln : l.length = n * size) (hneed : need = sLen + n) (hlt : sCap < need) :
    Builtin.nextslicecap need sCap * i.bytes ≤ 281474976710656 ∧ need ≤ 9223372036854775807 ∧
    OkV P X e σ K (.ok (.slice (some ⟨w.heap.size, 0, none⟩) need (grownCap w need sCap el))
      (w.drew.alloc (.cells (olds.toArray ++ news.toArray ++ Builtin.zeroCells z.cells (grownCap w need sCap el - need)) el))) := by
  obtain ⟨hb, h1⟩ := ifB_iff.1 h
  rw [forceN_eq] at h1
  obtain ⟨c1, h2, g1⟩ := fillK_ok h1
  rw [lenL_eq] at h2
  obtain ⟨_, c2, h3, g2⟩ := layK_ok h2
  have hb' : (2 * need + 1000) * (bytes + 1) ≤ 281474976710656 := Nat.le_of_ble_eq_true hb
  rw [Nat.mul_add, Nat.mul_one] at hb'
  have hle := nextslicecap_le hlt
  have hfit : Builtin.nextslicecap need sCap * i.bytes ≤ 281474976710656 := by
    have : Builtin.nextslicecap need sCap * i.bytes ≤ (2 * need + 1000) * bytes := by rw [hby]; exact Nat.mul_le_mul_right _ (by omega)
    omega
  have hge := grownCap_ge w need sCap el
  have hlo := ro.length
  have hln := rn.length
  have hsize : (olds.toArray ++ news.toArray ++ Builtin.zeroCells z.cells (grownCap w need sCap el - need)).size = grownCap w need sCap el * size := by
    simp only [Array.size_append, List.size_toArray, size_zeroCells, hzs]
    rw [← hlo, ← hln, lo, ln, ← Nat.add_mul, ← Nat.add_mul]
    have e1 : sLen + n + (grownCap w need sCap el - need) = grownCap w need sCap el := by omega
    rw [e1]
  refine ⟨hfit, by omega, newOpen_ok h3 hw hi (C := olds.toArray ++ news.toArray ++ Builtin.zeroCells z.cells (grownCap w need sCap el - need)) ?_ ?_ (by rw [hsize, hsz]) hge ?_ rfl rfl rfl rfl⟩
  · intro j v hv
    rcases g2 j v hv with ⟨q1, q2⟩ | ⟨q1, q2⟩
    · obtain ⟨x, hx, hr⟩ := rn.get q2
      refine ⟨x, ?_, hr⟩
      have hjn : j - old.length < news.length := (List.getElem?_eq_some_iff.1 hx).1
      rw [Array.getElem?_append_left (by simp; omega), Array.getElem?_append_right (by simp; omega)]
      simp only [List.size_toArray, List.getElem?_toArray]
      rw [← hlo]; exact hx
    · rw [g1] at q2
      by_cases q3 : 0 ≤ j ∧ j < 0 + old.length
      · rw [if_pos q3] at q2
        obtain ⟨x, hx, hr⟩ := ro.get q2
        refine ⟨x, ?_, hr⟩
        rw [Array.getElem?_append_left (by simp; omega), Array.getElem?_append_left (by simp; omega)]
        simpa using hx
      · rw [if_neg q3, get_eCs] at q2; cases q2
  · rw [hsize]; exact Nat.mul_le_mul_right _ hge
  · intro j hj
    have hj' : need * size ≤ j := hj
    have e1 : need * size = old.length + l.length := by rw [lo, ln, ← Nat.add_mul, hneed]
    cases hg : c2.get j with
    | none => rfl
    | some v =>
      rcases g2 j v hg with ⟨q1, q2⟩ | ⟨q1, q2⟩
      · have := (List.getElem?_eq_some_iff.1 q2).1
        omega
      · rw [g1, if_neg (by omega), get_eCs] at q2; cases q2

theorem beq_true {a b : Nat} (h : Nat.beq a b = true) : a = b := Nat.eq_of_beq_eq_true h

theorem secondInt_ok' {ts : Array TypeId} (h : ifB (appendK.secondInt P ts.toList) false true = true) : appendK.secondInt P ts.toList = false := by
  cases q : appendK.secondInt P ts.toList with
  | false => rfl
  | true => rw [q] at h; cases h

theorem isCell_all {l : List AV} {xs : List Value} (hc : ∀ v ∈ l, isCell v = true) (hl : LRel e l xs) : ∀ x ∈ xs, x.oneCell' = true := by
  intro x hx
  obtain ⟨i, hi, rfl⟩ := List.mem_iff_getElem.1 hx
  have hi' : i < l.length := by rw [hl.length]; exact hi
  obtain ⟨y, hy, hr⟩ := hl.get (List.getElem?_eq_getElem hi')
  rw [List.getElem?_eq_getElem hi] at hy; cases hy
  exact isCell_ok hr (hc _ (List.getElem_mem hi'))

theorem appendToK_ok {ts : Array TypeId} {ty st e0 : TypeId} {size bytes : Nat} {i : TypeInfo} {z : Value} {s : AV} {s' x' : Value} {l : List AV} {n : Nat} {news : List Value} {K : AV → St → Bool} (h : appendToK e0 size bytes s σ K l n = true)
    (hu : P.underlying st = some (.slice e0)) (hi : P.info? e0 = some i) (hsz : i.size = size) (hby : i.bytes = bytes) (_hz : i.zero = some z) (hzs : z.cells.size = size)
    (rn : LRel e l news) (hT : There P ts ty w i.size n x' news) (hM : Moved P ts ty w e0 i.size i.bytes n z x' news) (hs : VRel e s s') (hw : WRel P X e σ w) :
    OkV P X e σ K ((Builtin.append_ ts ty #[s', x']).run P w) := by
  obtain ⟨hln, h6⟩ := ifB_iff.1 (show ifB (Nat.beq (lenL l) (Nat.mul n size)) _ false = true from h)
  have ln : l.length = n * size := by rw [← lenL_eq]; exact beq_true hln
  clear h
  rcases onSliceN_iff.1 h6 with ⟨rfl, h7⟩ | ⟨b, o, len, cap, rfl, h7⟩
  · -- a nil slice
    cases hs
    cases hn : Nat.beq n 0 with
    | true =>
      rw [hn, ifB_true] at h7
      have hn0 := beq_true hn
      subst hn0
      have r := hT none 0 0 w (by omega) (by simp) (fun _ => rfl)
      exact ⟨.nils, _, e, σ, w, r, Env.Le.refl e, hw, rfl, h7, rfl⟩
    | false =>
      rw [hn, ifB_false] at h7
      have hn0 := beq_false hn
      obtain ⟨a1, a2, a3⟩ := growK_ok (sLen := 0) (sCap := 0) (n := n) h7 hw hi hsz hby hzs LRel.nil rn (by simp) ln (by omega) (by omega)
      have ho : Firsts P w i.size 0 (.slice none 0 0) [] := fun d => by simp [Builtin.firstCells]
      have r := hM none 0 0 [] (by omega) (by simpa using a1) (by omega) ho
      rw [r]
      simp only [Nat.zero_add]
      exact a3
  · obtain ⟨a, cp, hb, hle, hcap, rfl⟩ := hs
    rw [forceN_eq] at h7
    have h77 : optB cap _ _ = true := h7
    clear h7 h6
    cases cap with
    | some cp' =>
      have : cp = cp' := hcap
      subst this
      rw [optB_some] at h77
      cases hr : Nat.ble (Nat.add len n) cp with
      | true =>
        rw [hr, ifB_true] at h77
        have hroom : len + n ≤ cp := Nat.le_of_ble_eq_true hr
        cases hn : Nat.beq n 0 with
        | true =>
          rw [hn, ifB_true] at h77
          have hn0 := beq_true hn
          subst hn0
          have hnews : news = [] := List.eq_nil_of_length_eq_zero (by rw [← rn.length, ln]; simp)
          subst hnews
          have r := hT (some ⟨a, o, none⟩) len cp w hroom (fun a _ => rfl) (fun h => by cases h)
          exact ⟨.slice b o len (some cp), _, e, σ, w, r, Env.Le.refl e, hw, ⟨a, cp, hb, hle, hcap, rfl⟩, h77, rfl⟩
        | false =>
          rw [hn, ifB_false] at h77
          obtain ⟨A, hA, h8⟩ := hGetK_iff.1 h77
          obtain ⟨cs, nn, el, op, fz, sti, rfl, h9⟩ := onCells_iff.1 h8
          rw [forceN_eq] at h9
          obtain ⟨g1, h10⟩ := ifB_iff.1 h9
          obtain ⟨g2, h11⟩ := ifB_iff.1 h10
          obtain ⟨hcell, cs', h12, hcs'⟩ := wrK_ok h11
          obtain ⟨hslot, hK⟩ := hSetK_iff.1 h12
          obtain ⟨c', ob, hc', hob, ⟨C, lo, hi', rfl, hrel⟩, hF⟩ := hw.blk b _ hA
          rw [hb] at hc'; cases hc'
          have hcs'' : ∀ j, cs'.get j = if o + len * size ≤ j ∧ j < o + len * size + l.length then l[j - (o + len * size)]? else cs.get j := hcs'
          have g1' : o + len * size + l.length ≤ nn := by rw [← lenL_eq]; exact Nat.le_of_ble_eq_true g1
          have g2' : fz ≤ o + len * size := Nat.le_of_ble_eq_true g2
          have hnn := hrel.le
          have hll := rn.length
          obtain ⟨w', r1, r2, r3, r4, r5⟩ := run_storeCells (P := P) news 0 (o + len * size) C w hob (by omega) (fun j h1 h2 => hrel.unfrozen j (by omega) (by omega)) (isCell_all hcell rn)
          simp only [Nat.add_zero] at r2
          have r := hT (some ⟨a, o, none⟩) len cp w' hroom
            (fun a' ha => by cases ha; rw [Addr.add_none, hsz]; exact r1) (fun h => by cases h)
          refine ⟨.slice b o (len + n) (some cp), _, e, _, w', r, Env.Le.refl e, hw.set (A' := .cells cs' nn el op fz sti) hA hb hslot ⟨_, lo, hi', rfl, ?_⟩ r2 r3 r4 r5, ⟨a, cp, hb, hroom, rfl, rfl⟩, hK, rfl⟩
          exact ⟨hrel.rel.wr rn (by omega) hcs', by rw [size_wrArr]; exact hrel.le, fun ho => by rw [size_wrArr]; exact hrel.closed ho, fun ho => by rw [size_wrArr]; exact hrel.opened ho,
            fun j h1 h2 => hrel.unfrozen j h1 (by rw [size_wrArr] at h2; exact h2), hrel.plain, fun j hj => by rw [hcs'', if_neg (by omega)]; exact hrel.bound j hj⟩
      | false =>
        rw [hr, ifB_false] at h77
        have hroom : cp < len + n := by
          apply Nat.lt_of_not_le; intro hh
          rw [Nat.ble_eq_true_of_le (show Nat.add len n ≤ cp from hh)] at hr; cases hr
        obtain ⟨old, m, olds, b', cp', h8, ro, e1, e2, hfo, _⟩ := readSlK_ok h77 (show VRel e (.slice b o len (some cp)) _ from ⟨a, cp, hb, hle, hcap, rfl⟩) hw
        cases e1
        obtain ⟨a1, a2, a3⟩ := growK_ok (sLen := len) (sCap := cp) (n := n) h8 hw hi hsz hby hzs ro rn e2 ln rfl hroom
        have hfo' : Firsts P w i.size len (.slice (some ⟨a, o, none⟩) len cp) olds := by rw [hsz]; exact hfo
        have r := hM (some ⟨a, o, none⟩) len cp _ hroom a1 a2 hfo'
        rw [r]
        exact a3
    | none =>
      rw [optB_none] at h77
      cases hn : Nat.beq n 0 with
      | true =>
        rw [hn, ifB_true] at h77
        have hn0 := beq_true hn
        subst hn0
        have hnews : news = [] := List.eq_nil_of_length_eq_zero (by rw [← rn.length, ln]; simp)
        subst hnews
        have r := hT (some ⟨a, o, none⟩) len cp w (by omega) (fun a _ => rfl) (fun h => by cases h)
        exact ⟨.slice b o len none, _, e, σ, w, r, Env.Le.refl e, hw, ⟨a, cp, hb, hle, hcap, rfl⟩, h77, rfl⟩
      | false =>
        rw [hn, ifB_false] at h77
        have hn0 := beq_false hn
        obtain ⟨p1, h8⟩ := ifB_iff.1 h77
        have p1 := beq_true p1
        subst p1
        obtain ⟨A, hA, h9⟩ := hGetK_iff.1 h8
        obtain ⟨cs, nn, el, op, fz, sti, rfl, h10⟩ := onCells_iff.1 h9
        obtain ⟨p2, h11⟩ := ifB_iff.1 h10
        subst p2
        cases hq3 : Nat.beq nn (Nat.mul len size) with
        | false =>
          rw [hq3, ifB_false, forceN_eq] at h11
          obtain ⟨s1, h12⟩ := ifB_iff.1 h11
          obtain ⟨s2, h13⟩ := ifB_iff.1 h12
          rw [forceN_eq] at h13
          obtain ⟨s3, h14⟩ := ifB_iff.1 h13
          have s1 : (len + n) * size ≤ nn := Nat.le_of_ble_eq_true s1
          have s2 : el = e0 := beq_true s2
          have s3 : fz ≤ len * size := Nat.le_of_ble_eq_true s3
          subst s2
          obtain ⟨hcell, cs', h15, hcs'⟩ := wrK_ok h14
          obtain ⟨hslot, hK⟩ := hSetK_iff.1 h15
          obtain ⟨c', ob, hc', hob, ⟨C, lo, hi', rfl, hrel⟩, hF⟩ := hw.blk b _ hA
          rw [hb] at hc'; cases hc'
          have hcapE : e.cap b = some cp := hcap rfl
          obtain ⟨k, i', hk1, hk2, hk3⟩ := hrel.opened rfl
          rw [hcapE] at hk1; cases hk1
          rw [hi] at hk2; cases hk2
          have hnn := hrel.le
          have hne : nn ≠ len * size := beq_false hq3
          rw [hsz] at hk3
          have hroom : len + n ≤ cp := by
            rcases Nat.eq_zero_or_pos size with g0 | g0
            · rw [g0, Nat.mul_zero] at hk3 hne; omega
            · exact Nat.le_of_mul_le_mul_right (Nat.le_trans s1 (hk3 ▸ hnn)) g0
          have hll := rn.length
          have hcs'' : ∀ j, cs'.get j = if len * size ≤ j ∧ j < len * size + l.length then l[j - len * size]? else cs.get j := hcs'
          have g1' : len * size + l.length ≤ nn := by rw [ln, ← Nat.add_mul]; exact s1
          obtain ⟨w', r1, r2, r3, r4, r5⟩ := run_storeCells (P := P) news 0 (len * size) C w hob (by omega) (fun j h1 h2 => hrel.unfrozen j (by omega) (by omega)) (isCell_all hcell rn)
          simp only [Nat.add_zero] at r2
          have r := hT (some ⟨a, 0, none⟩) len cp w' hroom (fun a' ha => by cases ha; rw [Addr.add_none, Nat.zero_add, hsz]; exact r1) (fun h => by cases h)
          refine ⟨.slice b 0 (len + n) none, _, e, _, w', r, Env.Le.refl e, hw.set (A' := .cells cs' nn el true fz sti) hA hb hslot ⟨_, lo, hi', rfl, ?_⟩ r2 r3 r4 r5, ⟨a, cp, hb, hroom, fun _ => hcapE, rfl⟩, hK, rfl⟩
          exact ⟨hrel.rel.wr rn (by omega) hcs', by rw [size_wrArr]; exact hrel.le, fun ho => by rw [size_wrArr]; exact hrel.closed ho, fun ho => by rw [size_wrArr]; exact hrel.opened ho,
            fun j h1 h2 => hrel.unfrozen j h1 (by rw [size_wrArr] at h2; exact h2), hrel.plain, fun j hj => by rw [hcs'', if_neg (by omega)]; exact hrel.bound j hj⟩
        | true =>
        have p3 := hq3
        have h12 := h11
        rw [hq3, ifB_true] at h12
        obtain ⟨p4, h13⟩ := ifB_iff.1 h12
        obtain ⟨p5, h14⟩ := ifB_iff.1 h13
        obtain ⟨p6, h15⟩ := ifB_iff.1 h14
        have p3 : nn = len * size := beq_true p3
        have p4 : fz ≤ nn := Nat.le_of_ble_eq_true p4
        have p5 : el = e0 := beq_true p5
        have p6 : (2 * (len + n) + 1000) * (bytes + 1) ≤ 281474976710656 := Nat.le_of_ble_eq_true p6
        subst p5
        rw [forceN_eq] at h15
        obtain ⟨hcell, cs', h16, hcs'⟩ := layK_ok h15
        obtain ⟨hslot, h17⟩ := hSetK_iff.1 h16
        obtain ⟨c', ob, hc', hob, ⟨C, lo, hi', rfl, hrel⟩, hF⟩ := hw.blk b _ hA
        rw [hb] at hc'; cases hc'
        have hcapE : e.cap b = some cp := hcap rfl
        obtain ⟨k, i', hk1, hk2, hk3⟩ := hrel.opened rfl
        rw [hcapE] at hk1; cases hk1
        rw [hi] at hk2; cases hk2
        have hll := rn.length
        have hdrop := hw.drop hslot
        have hfree : ∀ b' A', (σ.put b none).get b' = some A' → e.blk b' ≠ some a := by
          intro b' A' h1 h2
          rw [St.get_put hslot] at h1
          by_cases hbb : b = b'
          · rw [if_pos hbb] at h1; cases h1
          · rw [if_neg hbb] at h1
            exact hbb (hw.inj b b' a _ A' hA h1 hb h2)
        have lnn : l.length = n * i.size := by rw [hsz]; exact ln
        have hnn : nn = len * i.size := by rw [hsz]; exact p3
        have hbnd : ∀ j, (len + n) * size ≤ j → cs'.get j = none := by
          intro j hj
          have e1 : (len + n) * size = nn + l.length := by rw [p3, ln, ← Nat.add_mul]
          cases hg : cs'.get j with
          | none => rfl
          | some v =>
            rcases hcs' j v hg with ⟨q1, q2⟩ | ⟨q1, q2⟩
            · have := (List.getElem?_eq_some_iff.1 q2).1
              omega
            · rw [hrel.bound j (by omega)] at q2; cases q2
        by_cases hroom : len + n ≤ cp
        · -- there is room: the block is named anew
          have hfit : nn + news.length ≤ C.size := by
            rw [hk3, hnn, ← hll, lnn, ← Nat.add_mul]; exact Nat.mul_le_mul_right _ hroom
          obtain ⟨w', r1, r2, r3, r4, r5⟩ := run_storeCells (P := P) news 0 nn C w hob (by omega) (fun j h1 h2 => hrel.unfrozen j (by omega) (by omega)) (isCell_all hcell rn)
          simp only [Nat.add_zero] at r2
          have r := hT (some ⟨a, 0, none⟩) len cp w' hroom
            (fun a' ha => by cases ha; rw [Addr.add_none, Nat.zero_add, ← hnn]; exact r1) (fun h => by cases h)
          obtain ⟨hs2, hk⟩ := newBlkK_iff.1 h17
          obtain ⟨f1, f2, _⟩ := hdrop.fresh (σ.put b none).nx (Nat.le_refl _)
          have hle' := Env.le_bind (e := e) (c := a) (k := some cp) f1 f2
          have hlt := hw.lt hA hb
          refine ⟨.slice (σ.put b none).nx 0 (len + n) none, _, e.bind (σ.put b none).nx a (some cp), _, w', r, hle', hdrop.name (A := .cells cs' ((len + n) * size) el true fz sti) hs2 hfree hF (fun d hd _ => by rw [r2, Array.getElem?_setIfInBounds_ne (Ne.symm hd)]) (by rw [r2]; simp)
            (by rw [r2, Array.getElem?_setIfInBounds_self_of_lt hlt]) (nx_ge hdrop) ?_ r3 r4 r5, ⟨a, cp, Env.bind_blk .., hroom, fun _ => Env.bind_cap .., rfl⟩, hk, rfl⟩
          refine ⟨_, lo, hi', rfl, ⟨?_, ?_, (fun h => by cases h), fun _ => ⟨cp, i, Env.bind_cap .., hi, by rw [size_wrArr, hk3]⟩, fun j h1 h2 => hrel.unfrozen j h1 (by rw [size_wrArr] at h2; exact h2), hrel.plain, hbnd⟩⟩
          · intro j v hv
            have key : ∃ x, (wrArr C nn news)[j]? = some x ∧ VRel e v x := by
              rw [get_wrArr news C nn j hfit]
              rcases hcs' j v hv with ⟨q1, q2⟩ | ⟨q1, q2⟩
              · obtain ⟨x, hx1, hx2⟩ := rn.get q2
                have := (List.getElem?_eq_some_iff.1 hx1).1
                rw [if_pos (by omega)]
                exact ⟨x, hx1, hx2⟩
              · rw [if_neg (by omega)]
                exact hrel.rel j v q2
            obtain ⟨x, hx1, hx2⟩ := key
            exact ⟨x, hx1, hx2.mono hle'⟩
          · rw [size_wrArr, hk3, ← hsz]; exact Nat.mul_le_mul_right _ hroom
        · -- it moves
          have hlt : cp < len + n := by omega
          rw [Nat.mul_add, Nat.mul_one] at p6
          have hnle := nextslicecap_le hlt
          have hfit : Builtin.nextslicecap (len + n) cp * i.bytes ≤ 281474976710656 := by
            have : Builtin.nextslicecap (len + n) cp * i.bytes ≤ (2 * (len + n) + 1000) * bytes := by rw [hby]; exact Nat.mul_le_mul_right _ (by omega)
            omega
          -- what the model reads of the old block
          have hCn : nn ≤ C.size := hrel.le
          have hold : Firsts P w i.size len (.slice (some ⟨a, 0, none⟩) len cp) (C.toList.take nn) := by
            intro d
            simp only [Builtin.firstCells]
            have e1 : len * i.size = (C.toList.take nn).length := by simp; omega
            rw [e1]
            refine run_loadCells_list _ _ _ fun j v hv => ?_
            rw [Addr.add_none, Nat.zero_add, cell?_of (w := { w with drawn := d }) hob]
            rw [List.getElem?_take] at hv
            split at hv
            · simpa using hv
            · cases hv
          have r := hM (some ⟨a, 0, none⟩) len cp _ hlt hfit (by omega) hold
          rw [r]
          have hge := grownCap_ge w (len + n) cp el
          have hsize : ((C.toList.take nn).toArray ++ news.toArray ++ Builtin.zeroCells z.cells (grownCap w (len + n) cp el - (len + n))).size = grownCap w (len + n) cp el * i.size := by
            have e1 : (C.toList.take nn).length = len * i.size := by simp; omega
            simp only [Array.size_append, List.size_toArray, size_zeroCells, hzs, e1]
            rw [← hll, lnn, ← hsz, ← Nat.add_mul, ← Nat.add_mul]
            have e2 : len + n + (grownCap w (len + n) cp el - (len + n)) = grownCap w (len + n) cp el := by omega
            rw [e2]
          obtain ⟨v, y, e', σ', w', s1, s2, s3, s4, s5, s6⟩ := newOpen_ok h17 hdrop hi (C := (C.toList.take nn).toArray ++ news.toArray ++ Builtin.zeroCells z.cells (grownCap w (len + n) cp el - (len + n)))
            (cp := grownCap w (len + n) cp el) (w1 := w.drew.alloc (.cells ((C.toList.take nn).toArray ++ news.toArray ++ Builtin.zeroCells z.cells (grownCap w (len + n) cp el - (len + n))) el))
            (by
              intro j v hv
              have e1 : (C.toList.take nn).length = nn := by simp; omega
              rcases hcs' j v hv with ⟨q1, q2⟩ | ⟨q1, q2⟩
              · obtain ⟨x, hx1, hx2⟩ := rn.get q2
                have := (List.getElem?_eq_some_iff.1 hx1).1
                refine ⟨x, ?_, hx2⟩
                rw [Array.getElem?_append_left (by simp; omega), Array.getElem?_append_right (by simp; omega)]
                simp only [List.size_toArray, List.getElem?_toArray, e1]
                exact hx1
              · obtain ⟨x, hx1, hx2⟩ := hrel.rel j v q2
                have hjn : j < nn := by
                  apply Nat.lt_of_not_le; intro hh
                  rw [hrel.bound j hh] at q2; cases q2
                refine ⟨x, ?_, hx2⟩
                rw [Array.getElem?_append_left (by simp; omega), Array.getElem?_append_left (by simp; omega)]
                simp only [List.getElem?_toArray, List.getElem?_take, if_pos hjn]
                simpa using hx1)
            (by rw [hsize, ← hsz]; exact Nat.mul_le_mul_right _ hge) hsize hge hbnd rfl rfl rfl rfl
          exact ⟨v, y, e', σ', w', s1, s2, s3, s4, s5, s6⟩

theorem appendK_ok {ts : Array TypeId} {ty : TypeId} {s x : AV} {s' x' : Value} {K : AV → St → Bool} (h : appendK P ts.toList s x σ K = true) (hs : VRel e s s') (hx : VRel e x x') (hw : WRel P X e σ w) :
    OkV P X e σ K ((Builtin.append_ ts ty #[s', x']).run P w) := by
  obtain ⟨st, hst, h1⟩ := optK_iff.1 (show optK _ ts.toList[0]? = true from h)
  clear h
  rw [Array.getElem?_toList] at hst
  obtain ⟨q, hq, h2⟩ := optK_iff.1 h1
  obtain ⟨i, hu, hi, hsz, hby⟩ := sliceOf_ok hq
  obtain ⟨za, hza, h3⟩ := optK_iff.1 h2
  obtain ⟨hzl, h4⟩ := ifB_iff.1 h3
  obtain ⟨z, hz, hzs, hrz⟩ : ∃ z, i.zero = some z ∧ z.cells.size = q.2.1 ∧ LRel e (cellsOf za) z.cells.toList := by
    unfold zeroV at hza
    rw [hi] at hza
    cases hz : i.zero with
    | none => simp [hz] at hza
    | some z =>
      simp [hz] at hza
      have h0 := cellsOf_ok (absV_ok (e := e) hza)
      have := h0.length
      refine ⟨z, rfl, ?_, h0⟩
      rw [← Array.length_toList, ← this, ← lenL_eq]; exact beq_true hzl
  clear h1 h2 h3
  cases hsi : appendK.secondInt P ts.toList with
  | true =>
    rw [hsi, ifB_true] at h4
    obtain ⟨t1, ht1, h5⟩ := optK_iff.1 (show optK _ ts.toList[1]? = true from h4)
    rw [Array.getElem?_toList] at ht1
    obtain ⟨hint, h6⟩ := ifB_iff.1 h5
    obtain ⟨k1, hd⟩ : ∃ k, P.underlying t1 = some (.int k) := by
      unfold isIntT at hint
      split at hint
      · rename_i k hk; exact ⟨k, hk⟩
      · cases hint
    obtain ⟨k', n', rfl, h7⟩ := onInt_iff.1 (show onInt x (fun k _ => ifB (Nat.beq (ikN k) 3) (natK x fun n => ifB (Nat.ble n 100000) (ifB (Nat.ble (Nat.mul n q.2.2) 281474976710656) (appendToK q.1 q.2.1 q.2.2 s σ K (repL (cellsOf za) n) n) false) false) false) = true from h6)
    obtain ⟨hk0, h7⟩ := ifB_iff.1 h7
    obtain rfl : k' = .i64 := ikN_inj (k' := .i64) hk0
    obtain ⟨k, n, hkn, h8⟩ := natK_ok h7 hx
    obtain rfl : k = .i64 := by
      cases hx
      cases hkn; rfl
    subst hkn
    obtain ⟨hn1, h9⟩ := ifB_iff.1 h8
    obtain ⟨hn2, h10⟩ := ifB_iff.1 h9
    have hn1 : n ≤ 100000 := Nat.le_of_ble_eq_true hn1
    have hn2 : n * i.bytes ≤ 281474976710656 := by rw [hby]; exact Nat.le_of_ble_eq_true hn2
    exact appendToK_ok h10 hu hi hsz hby hz hzs (repL_rel n hrz) (there_zero hst ht1 hd hu hi hz (hzs.trans hsz.symm) hn1 hn2) (moved_zero hst ht1 hd hu hi hz (hzs.trans hsz.symm) hn1 hn2) hs hw
  | false =>
    rw [hsi, ifB_false] at h4
    obtain ⟨l, n, news, h5, rn, hlen, hfn⟩ := srcK_ok h4 hx hw
    have hfn' : Firsts P w i.size n x' news := by rw [hsz]; exact hfn
    exact appendToK_ok h5 hu hi hsz hby hz hzs rn (there_src hst hsi hu hi hlen hfn') (moved_src hst hsi hu hi hz hlen hfn') hs hw
end
end Go.Ev

/- The evaluator, part 16: copy, len, cap, min, max, conversions. -/
namespace Go.Ev
section
variable {P : Program} {X : Fix} {e : Env} {σ : St} {w : World}

theorem srcLen_ok {s : AV} {x : Value} {K : Nat → Bool} (h : copyK.srcLen s K = true) (hs : VRel e s x) :
    ∃ n, K n = true ∧ (∀ w2, (Builtin.lenOf x).run P w2 = .ok n w2) ∧ (∀ w2 size, (Builtin.firstCells size 0 x).run P w2 = .ok #[] w2) ∧
      ∀ m, m ≤ n → ∃ x', VRel e (copyK.headOf s m) x' ∧ (∀ w2, (Builtin.lenOf x').run P w2 = .ok m w2) ∧ ∀ size, Builtin.firstCells size m x' = Builtin.firstCells size m x ∨
        ∃ l n', x = .string (strOf l n') ∧ m ≤ l ∧ x' = .string (strOf m n') := by
  cases s with
  | eslice =>
    obtain ⟨a, c, rfl⟩ := hs
    refine ⟨0, h, fun w2 => rfl, fun w2 size => ?_, fun m hm => ⟨_, ⟨a, c, rfl⟩, fun w2 => by rw [Nat.le_zero.1 hm]; rfl, fun size => .inl rfl⟩⟩
    simp only [Builtin.firstCells, Nat.zero_mul]
    exact run_loadCells_list _ _ [] (by simp)
  | nils =>
    cases hs
    exact ⟨0, h, fun w2 => rfl, fun w2 size => by simp [Builtin.firstCells], fun m hm => ⟨_, rfl, fun w2 => by rw [Nat.le_zero.1 hm]; rfl, fun size => .inl rfl⟩⟩
  | str l n =>
    cases hs
    exact ⟨l, h, fun w2 => by simp [Builtin.lenOf, size_strOf], fun w2 size => by simp [Builtin.firstCells], fun m hm => ⟨_, rfl, fun w2 => by simp [Builtin.lenOf, size_strOf], fun size => .inr ⟨l, n, rfl, hm, rfl⟩⟩⟩
  | slice b o l c =>
    obtain ⟨a, cp, hb, hle, hc, rfl⟩ := hs
    refine ⟨l, h, fun w2 => rfl, fun w2 size => ?_, fun m hm => ⟨.slice (some ⟨a, o, none⟩) m cp, ⟨a, cp, hb, by omega, hc, rfl⟩, fun w2 => rfl, fun size => .inl rfl⟩⟩
    simp only [Builtin.firstCells, Nat.zero_mul]
    exact run_loadCells_list _ _ [] (by simp)
  | _ => exact nomatch (show false = true from h)

theorem firsts_head {size m l n' : Nat} (hm : m ≤ l) {xs : List Value} (h : Firsts P w size m (.string (strOf m n')) xs) : Firsts P w size m (.string (strOf l n')) xs := by
  intro d
  have h1 := h d
  simp only [Builtin.firstCells, Sem.run_pure] at h1 ⊢
  have e1 : (strOf l n').extract 0 m = strOf m n' := by
    rw [extract_strOf (Nat.zero_le m) hm]
    simp only [Nat.sub_zero, Nat.pow_zero, Nat.div_one]
    have : ∀ a b : ByteArray, a.data.toList = b.data.toList → a = b := fun ⟨⟨_⟩⟩ ⟨⟨_⟩⟩ h => by cases h; rfl
    apply this
    rw [strOf_data, strOf_data]
    apply List.ext_getElem?
    intro i
    by_cases hi : i < m
    · simp only [bytesL, List.getElem?_map, List.getElem?_range, hi, Option.map_some]
      rw [byteAt_mod hi]
    · simp [bytesL, hi]
  have e2 : (strOf m n').extract 0 m = strOf m n' := by
    have q : (strOf m n').size = m := size_strOf m n'
    have := ByteArray.extract_zero_size (b := strOf m n')
    rw [q] at this; exact this
  rw [e1]; rw [e2] at h1; exact h1

theorem run_copy {ts : Array TypeId} {t el ty : TypeId} {i : TypeInfo} (h0 : ts[0]? = some t) (hu : P.underlying t = some (.slice el)) (hi : P.info? el = some i) {base : Option Addr} {dLen dCap sl : Nat} {x : Value} {xs : Array Value}
    (hlen : ∀ w2, (Builtin.lenOf x).run P w2 = .ok sl w2) (hf : (Builtin.firstCells i.size (Nat.min sl dLen) x).run P w = .ok xs w) {w' : World}
    (hst : ∀ a, base = some a → (storeCells a xs.toList).run P w = .ok () w') (hno : base = none → w' = w) :
    (Builtin.copy_ ts ty #[.slice base dLen dCap, x]).run P w = .ok (goInt (Nat.min sl dLen)) w' := by
  have hb : base = none ∨ ∃ a, base = some a := by cases base with | none => exact .inl rfl | some a => exact .inr ⟨a, rfl⟩
  rcases hb with rfl | ⟨a, rfl⟩
  · rw [hno rfl]
    simp [Builtin.copy_, h0, run_underlying hu, hlen, sizeOf, typeInfo, hi, hf]
  · simp [Builtin.copy_, h0, run_underlying hu, hlen, sizeOf, typeInfo, hi, hf, hst a rfl]

theorem copyK_ok {ts : Array TypeId} {ty : TypeId} {d s : AV} {d' s' : Value} {K : AV → St → Bool} (h : copyK P ts.toList d s σ K = true) (hd : VRel e d d') (hs : VRel e s s') (hw : WRel P X e σ w) :
    OkV P X e σ K ((Builtin.copy_ ts ty #[d', s']).run P w) := by
  obtain ⟨t, ht, h1⟩ := optK_iff.1 h
  rw [Array.getElem?_toList] at ht
  obtain ⟨q, hq, h2⟩ := optK_iff.1 h1
  obtain ⟨i, hu, hi, hsz, hby⟩ := sliceOf_ok hq
  clear h h1
  rcases onSliceN_iff.1 h2 with ⟨rfl, h3⟩ | ⟨b, o, dl, dc, rfl, h3⟩
  · cases hd
    obtain ⟨n, h4, h5, h6, _⟩ := srcLen_ok (P := P) h3 hs
    have r := run_copy (ty := ty) (w := w) ht hu hi (base := none) (dLen := 0) (dCap := 0) h5 (by rw [show Nat.min n 0 = 0 by simp]; exact h6 w i.size) (w' := w) (by simp) (fun _ => rfl)
    refine ⟨_, _, e, σ, w, r, Env.Le.refl e, hw, ?_, h4, rfl⟩
    show _ = _
    simp [goInt]
  · have hdd := hd
    obtain ⟨a, cp, hb, hle, hcap, rfl⟩ := hd
    obtain ⟨sl, h4, h5, h6, h7⟩ := srcLen_ok (P := P) h3 hs
    rw [forceN_eq] at h4
    have hmin : (cond (Nat.ble sl dl) sl dl) = Nat.min sl dl := by
      cases q : Nat.ble sl dl with
      | true => have := Nat.le_of_ble_eq_true q; simp [this]
      | false =>
        have : ¬ sl ≤ dl := fun hh => by rw [Nat.ble_eq_true_of_le hh] at q; cases q
        simp [Nat.min_def, this]
    rw [hmin] at h4
    generalize hn : Nat.min sl dl = n at h4
    have hnsl : n ≤ sl := by rw [← hn]; exact Nat.min_le_left _ _
    cases hz : Nat.beq n 0 with
    | true =>
      rw [hz, ifB_true] at h4
      have := beq_true hz
      subst this
      have r := run_copy (ty := ty) (w := w) ht hu hi (base := some ⟨a, o, none⟩) (dLen := dl) (dCap := cp) h5 (by rw [hn]; exact h6 w i.size) (w' := w) (fun a' _ => rfl) (fun h => by cases h)
      refine ⟨_, _, e, σ, w, r, Env.Le.refl e, hw, ?_, h4, rfl⟩
      show _ = _
      simp [goInt, hn]
    | false =>
      rw [hz, ifB_false] at h4
      obtain ⟨x', hx', hl', hf'⟩ := h7 n hnsl
      obtain ⟨l, m, xs, h8, rl, hlen, hfs⟩ := srcK_ok h4 hx' hw
      have hm : m = n := by
        have h1 := hlen w
        rw [hl' w] at h1
        cases h1; rfl
      subst hm
      have hfs' : Firsts P w q.2.1 m s' xs := by
        rcases hf' q.2.1 with hh | ⟨l', n', rfl, hll, rfl⟩
        · intro d; rw [← hh]; exact hfs d
        · exact firsts_head hll hfs
      obtain ⟨p1, h9⟩ := ifB_iff.1 h8
      obtain ⟨A, hA, h10⟩ := hGetK_iff.1 h9
      obtain ⟨cs, nn, el, op, fz, sti, rfl, h11⟩ := onCells_iff.1 h10
      obtain ⟨p2, h12⟩ := ifB_iff.1 h11
      obtain ⟨p3, h13⟩ := ifB_iff.1 h12
      obtain ⟨hcell, cs', h14, hcs'⟩ := wrK_ok h13
      obtain ⟨hslot, hK⟩ := hSetK_iff.1 h14
      obtain ⟨c', ob, hc', hob, ⟨C, lo, hi', rfl, hrel⟩, hF⟩ := hw.blk b _ hA
      rw [hb] at hc'; cases hc'
      have p2' : o + l.length ≤ nn := by rw [← lenL_eq]; exact Nat.le_of_ble_eq_true p2
      have p3' : fz ≤ o := Nat.le_of_ble_eq_true p3
      have hnn := hrel.le
      have hll := rl.length
      obtain ⟨w', r1, r2, r3, r4, r5⟩ := run_storeCells (P := P) xs 0 o C w hob (by omega) (fun j h1 h2 => hrel.unfrozen j (by omega) (by omega)) (isCell_all hcell rl)
      simp only [Nat.add_zero] at r2
      have hfw : (Builtin.firstCells i.size (Nat.min sl dl) s').run P w = .ok xs.toArray w := by rw [hn, hsz]; exact hfs' w.drawn
      have r := run_copy (ty := ty) (w := w) ht hu hi (base := some ⟨a, o, none⟩) (dLen := dl) (dCap := cp) h5 hfw (w' := w')
        (fun a' ha => by cases ha; exact r1) (fun h => by cases h)
      refine ⟨_, _, e, _, w', r, Env.Le.refl e, hw.set (A' := .cells cs' nn el op fz sti) hA hb hslot ⟨_, lo, hi', rfl, ?_⟩ r2 r3 r4 r5, ?_, hK, rfl⟩
      · exact ⟨hrel.rel.wr rl (by omega) hcs', by rw [size_wrArr]; exact hrel.le, fun ho => by rw [size_wrArr]; exact hrel.closed ho, fun ho => by rw [size_wrArr]; exact hrel.opened ho,
            fun j h1 h2 => hrel.unfrozen j h1 (by rw [size_wrArr] at h2; exact h2), hrel.plain, fun j hj => by rw [hcs', if_neg (by omega)]; exact hrel.bound j hj⟩
      · show _ = _
        rw [hn]; rfl

theorem isMapT_ok {t : TypeId} (h : lenK.isMapT P t = true) : ∃ k v, P.underlying t = some (.map k v) := by
  unfold lenK.isMapT at h
  split at h
  · exact ⟨_, _, by assumption⟩
  · cases h
theorem isSliceT_ok {t : TypeId} (h : lenK.isSliceT P t = true) : ∃ el, P.underlying t = some (.slice el) := by
  unfold lenK.isSliceT at h
  split at h
  · exact ⟨_, by assumption⟩
  · cases h
theorem EsRel.length : ∀ {as : List AEnt} {xs : List MapEntry}, EsRel e as xs → as.length = xs.length
  | [], _, r => by cases r; rfl
  | _ :: _, _, ⟨_, _, _, q, s⟩ => by subst s; simp [EsRel.length q]

theorem lenK_ok {ts : Array TypeId} {t ty : TypeId} {v : AV} {x : Value} {K : AV → Bool} (h0 : ts[0]? = some t) (h : lenK P t v σ K = true) (hv : VRel e v x) (hw : WRel P X e σ w) :
    ∃ u z, K u = true ∧ VRel e u z ∧ (Builtin.len_ ts ty #[x]).run P w = .ok z w := by
  unfold lenK at h
  cases ha : arrayOf P t with
  | some q =>
    rw [ha, optB_some] at h
    obtain ⟨i, hu, _, _⟩ := arrayOf_ok ha
    exact ⟨_, _, h, rfl, by simp [Builtin.len_, h0, run_underlying hu]; rfl⟩
  | none =>
    rw [ha, optB_none] at h
    cases hp : ptrArrayOf P t with
    | some q =>
      rw [hp, optB_some] at h
      obtain ⟨a, hu, ha2⟩ := ptrArrayOf_ok hp
      obtain ⟨i, hu2, _, _⟩ := arrayOf_ok ha2
      exact ⟨_, _, h, rfl, by simp [Builtin.len_, h0, run_underlying hu, run_underlying hu2]; rfl⟩
    | none =>
      rw [hp, optB_none] at h
      clear ha hp
      cases v with
      | eslice =>
        obtain ⟨g, h1⟩ := ifB_iff.1 h
        obtain ⟨el, hu⟩ := isSliceT_ok g
        obtain ⟨a, c, rfl⟩ := hv
        exact ⟨_, _, h1, rfl, by simp [Builtin.len_, h0, run_underlying hu]; rfl⟩
      | nilm =>
        obtain ⟨g, h1⟩ := ifB_iff.1 h
        obtain ⟨k, el, hu⟩ := isMapT_ok g
        cases hv
        exact ⟨_, _, h1, rfl, by simp [Builtin.len_, h0, run_underlying hu]; rfl⟩
      | map b =>
        obtain ⟨g, h1⟩ := ifB_iff.1 h
        obtain ⟨k, el, hu⟩ := isMapT_ok g
        obtain ⟨c, hc, rfl⟩ := hv
        obtain ⟨A, hA, h2⟩ := hGetK_iff.1 h1
        obtain ⟨es, ck, rfl, h3⟩ := onMapB_iff.1 h2
        rw [forceN_eq, lenL_eq] at h3
        obtain ⟨c', ob, hc', hob, ⟨E, rfl, hE⟩, _⟩ := hw.blk b _ hA
        rw [hc] at hc'; cases hc'
        refine ⟨_, _, h3, rfl, ?_⟩
        rw [hE.length]
        simp [Builtin.len_, h0, run_underlying hu, getObj, Sem.run, hob, goInt]
      | nils =>
        obtain ⟨g, h1⟩ := ifB_iff.1 h
        obtain ⟨el, hu⟩ := isSliceT_ok g
        cases hv
        exact ⟨_, _, h1, rfl, by simp [Builtin.len_, h0, run_underlying hu]; rfl⟩
      | str l n =>
        obtain ⟨g, h1⟩ := ifB_iff.1 h
        have hu := isStringT_ok g
        cases hv
        exact ⟨_, _, h1, rfl, by simp [Builtin.len_, h0, run_underlying hu, size_strOf, goInt]⟩
      | slice b o l c =>
        obtain ⟨g, h1⟩ := ifB_iff.1 h
        obtain ⟨el, hu⟩ := isSliceT_ok g
        obtain ⟨a, cp, _, _, _, rfl⟩ := hv
        exact ⟨_, _, h1, rfl, by simp [Builtin.len_, h0, run_underlying hu]; rfl⟩
      | _ => exact nomatch (show false = true from h)

theorem capK_ok {ts : Array TypeId} {t ty : TypeId} {v : AV} {x : Value} {K : AV → Bool} (h0 : ts[0]? = some t) (h : capK P t v K = true) (hv : VRel e v x) :
    ∃ u z, K u = true ∧ VRel e u z ∧ (Builtin.cap_ ts ty #[x]).run P w = .ok z w := by
  obtain ⟨g, h1⟩ := ifB_iff.1 h
  obtain ⟨el, hu⟩ := isSliceT_ok g
  rcases onSliceN_iff.1 h1 with ⟨rfl, h2⟩ | ⟨b, o, l, c, rfl, h2⟩
  · cases hv
    exact ⟨_, _, h2, rfl, by simp [Builtin.cap_, h0, run_underlying hu]; rfl⟩
  · obtain ⟨c', rfl, h3⟩ := optK_iff.1 h2
    obtain ⟨a, cp, _, _, hc, rfl⟩ := hv
    have : cp = c' := hc
    subst this
    exact ⟨_, _, h3, rfl, by simp [Builtin.cap_, h0, run_underlying hu]; rfl⟩

theorem foldMax_ok {k : IntKind} {K : AV → Bool} : ∀ {l : List AV} {xs : List Value} {x : Int}, foldMinMax true k x l K = true → LRel e l xs →
    ∃ u, K u = true ∧ ∃ z, VRel e u z ∧ (xs.foldlM Builtin.max2 (.int k x)).run P w = .ok z w
  | [], xs, x, h, hl => by cases hl; exact ⟨_, h, _, rfl, rfl⟩
  | v :: l, xs, x, h, hl => by
    obtain ⟨y, ys, r1, r2, rfl⟩ := hl
    obtain ⟨k', n, rfl, h1⟩ := onInt_iff.1 (show onInt v (fun _ y => ifB true (ifB (leI y x) (foldMinMax true k x l K) (foldMinMax true k y l K)) (ifB (leI x y) (foldMinMax true k x l K) (foldMinMax true k y l K))) = true from h)
    cases r1
    rw [ifB_true, leI_eq] at h1
    by_cases q : n ≤ x
    · rw [show decide (n ≤ x) = true by simp [q], ifB_true] at h1
      obtain ⟨u, a, z, b, c⟩ := foldMax_ok h1 r2
      have : ¬ n > x := by omega
      exact ⟨u, a, z, b, by simp only [List.foldlM_cons, Builtin.max2, Sem.run_bind, Sem.run_pure, if_neg this, Result.andThen_ok]; exact c⟩
    · rw [show decide (n ≤ x) = false by simp [q], ifB_false] at h1
      obtain ⟨u, a, z, b, c⟩ := foldMax_ok h1 r2
      have : n > x := by omega
      exact ⟨u, a, z, b, by simp only [List.foldlM_cons, Builtin.max2, Sem.run_bind, Sem.run_pure, if_pos this, Result.andThen_ok]; exact c⟩
theorem foldMin_ok {k : IntKind} {K : AV → Bool} : ∀ {l : List AV} {xs : List Value} {x : Int}, foldMinMax false k x l K = true → LRel e l xs →
    ∃ u, K u = true ∧ ∃ z, VRel e u z ∧ (xs.foldlM Builtin.min2 (.int k x)).run P w = .ok z w
  | [], xs, x, h, hl => by cases hl; exact ⟨_, h, _, rfl, rfl⟩
  | v :: l, xs, x, h, hl => by
    obtain ⟨y, ys, r1, r2, rfl⟩ := hl
    obtain ⟨k', n, rfl, h1⟩ := onInt_iff.1 (show onInt v (fun _ y => ifB false (ifB (leI y x) (foldMinMax false k x l K) (foldMinMax false k y l K)) (ifB (leI x y) (foldMinMax false k x l K) (foldMinMax false k y l K))) = true from h)
    cases r1
    rw [ifB_false, leI_eq] at h1
    by_cases q : x ≤ n
    · rw [show decide (x ≤ n) = true by simp [q], ifB_true] at h1
      obtain ⟨u, a, z, b, c⟩ := foldMin_ok h1 r2
      have : ¬ n < x := by omega
      exact ⟨u, a, z, b, by simp only [List.foldlM_cons, Builtin.min2, Sem.run_bind, Sem.run_pure, if_neg this, Result.andThen_ok]; exact c⟩
    · rw [show decide (x ≤ n) = false by simp [q], ifB_false] at h1
      obtain ⟨u, a, z, b, c⟩ := foldMin_ok h1 r2
      have : n < x := by omega
      exact ⟨u, a, z, b, by simp only [List.foldlM_cons, Builtin.min2, Sem.run_bind, Sem.run_pure, if_pos this, Result.andThen_ok]; exact c⟩
theorem maxK_ok {ts : Array TypeId} {ty : TypeId} {l : List AV} {xs : List Value} {K : AV → Bool} (h : minMaxK true l K = true) (hl : LRel e l xs) :
    ∃ u z, K u = true ∧ VRel e u z ∧ (Builtin.max_ ts ty xs.toArray).run P w = .ok z w := by
  cases l with
  | nil => exact nomatch (show false = true from h)
  | cons v r =>
    obtain ⟨k, x, rfl, h1⟩ := onInt_iff.1 (show onInt v (fun k x => foldMinMax true k x r K) = true from h)
    obtain ⟨y, ys, r1, r2, rfl⟩ := hl
    cases r1
    obtain ⟨u, a, z, b, c⟩ := foldMax_ok (P := P) (w := w) h1 r2
    exact ⟨u, z, a, b, by simpa [Builtin.max_] using c⟩
theorem minK_ok {ts : Array TypeId} {ty : TypeId} {l : List AV} {xs : List Value} {K : AV → Bool} (h : minMaxK false l K = true) (hl : LRel e l xs) :
    ∃ u z, K u = true ∧ VRel e u z ∧ (Builtin.min_ ts ty xs.toArray).run P w = .ok z w := by
  cases l with
  | nil => exact nomatch (show false = true from h)
  | cons v r =>
    obtain ⟨k, x, rfl, h1⟩ := onInt_iff.1 (show onInt v (fun k x => foldMinMax false k x r K) = true from h)
    obtain ⟨y, ys, r1, r2, rfl⟩ := hl
    cases r1
    obtain ⟨u, a, z, b, c⟩ := foldMin_ok (P := P) (w := w) h1 r2
    exact ⟨u, z, a, b, by simpa [Builtin.min_] using c⟩
theorem clearK_ok {ts : Array TypeId} {t ty : TypeId} {v : AV} {x : Value} {K : AV → St → Bool} (h0 : ts[0]? = some t) (h : clearK P t v σ K = true) (hv : VRel e v x) (hw : WRel P X e σ w) : OkV P X e σ K ((Builtin.clear_ ts ty #[x]).run P w) := by
  obtain ⟨q, hq, h1⟩ := optK_iff.1 h
  obtain ⟨i, hu, hi, hsz, _⟩ := sliceOf_ok hq
  have unit : VRel e (.tuple []) (.tuple #[]) := ⟨[], rfl, rfl⟩
  rcases onSliceE_iff.1 h1 with ⟨rfl, h2⟩ | ⟨rfl, h2⟩ | ⟨b, o, len, cap, rfl, h2⟩
  · cases hv
    exact ⟨_, _, e, σ, w, by simp [Builtin.clear_, h0, run_underlying hu], Env.Le.refl e, hw, unit, h2, rfl⟩
  · obtain ⟨a, c, rfl⟩ := hv
    exact ⟨_, _, e, σ, w, by simp [Builtin.clear_, h0, run_underlying hu], Env.Le.refl e, hw, unit, h2, rfl⟩
  · obtain ⟨a, cp, hb, hle, hcap, rfl⟩ := hv
    cases hz : Nat.beq len 0 with
    | true =>
      rw [hz, ifB_true] at h2
      have hl0 : len = 0 := Nat.eq_of_beq_eq_true hz
      subst hl0
      exact ⟨_, _, e, σ, w, by simp [Builtin.clear_, h0, run_underlying hu], Env.Le.refl e, hw, unit, h2, rfl⟩
    | false =>
      rw [hz, ifB_false] at h2
      have hl0 : len ≠ 0 := by rintro rfl; cases hz
      obtain ⟨z, hz', h3⟩ := optK_iff.1 h2
      obtain ⟨p0, h4⟩ := ifB_iff.1 h3
      obtain ⟨y, hy, hr⟩ := zeroV_ok (w := w) (e := e) hz'
      have hcz := cellsOf_ok hr
      obtain ⟨l, h9, rl⟩ := repeatK_ok h4 hcz
      generalize hxs : (List.replicate len y.cells.toList).flatten = xs at rl
      obtain ⟨A, hA, h10⟩ := hGetK_iff.1 h9
      obtain ⟨cs, nn, el, op, fz, sti, rfl, h11⟩ := onCells_iff.1 h10
      obtain ⟨p2, h12⟩ := ifB_iff.1 h11
      obtain ⟨p3, h13⟩ := ifB_iff.1 h12
      obtain ⟨hcell, cs', h14, hcs'⟩ := wrK_ok h13
      obtain ⟨hslot, hK⟩ := hSetK_iff.1 h14
      obtain ⟨c', ob, hc', hob, ⟨C, lo, hi', rfl, hrel⟩, hF⟩ := hw.blk b _ hA
      rw [hb] at hc'; cases hc'
      have p2' : o + l.length ≤ nn := by rw [← lenL_eq]; exact Nat.le_of_ble_eq_true p2
      have p3' : fz ≤ o := Nat.le_of_ble_eq_true p3
      have hnn := hrel.le
      have hll := rl.length
      obtain ⟨w', r1, r2, r3, r4, r5⟩ := run_storeCells (P := P) xs 0 o C w hob (by omega) (fun j h1 h2 => hrel.unfrozen j (by omega) (by omega)) (isCell_all hcell rl)
      simp only [Nat.add_zero] at r2
      have hpos : 0 < y.cells.size := by
        have h5 : 1 ≤ lenL (cellsOf z) := Nat.le_of_ble_eq_true p0
        have h6 := hcz.length
        rw [lenL_eq] at h5
        have h7 : y.cells.toList.length = y.cells.size := Array.length_toList
        omega
      have hyx : (Builtin.zeroCells y.cells len).toList = xs := by
        have := zeros_array y.cells len hpos
        unfold Builtin.zeroCells
        rw [this, hxs]
      have r : (Builtin.clear_ ts ty #[.slice (some ⟨a, o, none⟩) len cp]).run P w = .ok (.tuple #[]) w' := by
        obtain ⟨k, rfl⟩ : ∃ k, len = k + 1 := ⟨len - 1, by omega⟩
        simp [Builtin.clear_, h0, run_underlying hu, hy, hyx, r1]
      refine ⟨_, _, e, _, w', r, Env.Le.refl e, hw.set (A' := .cells cs' nn el op fz sti) hA hb hslot ⟨_, lo, hi', rfl, ?_⟩ r2 r3 r4 r5, unit, hK, rfl⟩
      exact ⟨hrel.rel.wr rl (by omega) hcs', by rw [size_wrArr]; exact hrel.le, fun ho => by rw [size_wrArr]; exact hrel.closed ho, fun ho => by rw [size_wrArr]; exact hrel.opened ho,
            fun j h1 h2 => hrel.unfrozen j h1 (by rw [size_wrArr] at h2; exact h2), hrel.plain, fun j hj => by rw [hcs', if_neg (by omega)]; exact hrel.bound j hj⟩
end
end Go.Ev

/- The evaluator, part 17: conversions. -/
namespace Go.Ev

theorem foldl_push (bs : List UInt8) : ∀ (r : ByteArray), (bs.map (fun b => (b.toNat : Int))).foldl (fun r n => r.push (UInt8.ofNat n.toNat)) r = ⟨r.data ++ bs.toArray⟩ := by
  induction bs with
  | nil => intro r; simp
  | cons b bs ih =>
    intro r
    simp only [List.map_cons, List.foldl_cons]
    rw [ih]
    apply ByteArray.ext
    simp [ByteArray.push]

section
variable {P : Program} {X : Fix} {e : Env} {σ : St} {w : World}

theorem shape?_of {c : Nat} {C : Array Value} {el : TypeId} {fz : Nat × Nat} (h : w.heap[c]? = some (.cells C el fz)) : w.shape? c = some (el, C.size) := by simp [World.shape?, h]
theorem viewAt_of {c : Nat} {C : Array Value} {el : TypeId} {fz : Nat × Nat} (h : w.heap[c]? = some (.cells C el fz)) : (viewAt c).run P w = .ok none w := by
  simp [viewAt, shape?_of h]
theorem seenAt_of {c o : Nat} {C : Array Value} {el : TypeId} {fz : Nat × Nat} (h : w.heap[c]? = some (.cells C el fz)) : (Conv.seenAt ⟨c, o, none⟩).run P w = .ok ⟨c, o, none⟩ w := by
  simp [Conv.seenAt, viewAt_of h]
theorem cellsIn_of {c : Nat} {C : Array Value} {el : TypeId} {fz : Nat × Nat} (h : w.heap[c]? = some (.cells C el fz)) : (cellsIn c).run P w = .ok (some C.size) w := by
  simp [cellsIn, shape?_of h]

theorem ptrN_iff {v : AV} {N : Bool} {K : Nat → Nat → Bool} : ptrN v N K = true ↔ (v = .nilp ∧ N = true) ∨ ∃ b o, v = .ptr b o ∧ K b o = true := by
  refine ⟨fun h => ?_, fun h => h.elim (fun ⟨e, h⟩ => e ▸ h) (fun ⟨_, _, e, h⟩ => e ▸ h)⟩
  cases v <;> first | exact .inr ⟨_, _, rfl, h⟩ | exact .inl ⟨rfl, h⟩ | exact nomatch (show false = true from h)

theorem heap_freeze {w1 : World} {c off : Nat} {C : Array Value} {el : TypeId} {lo hi n : Nat} (h : w1.heap[c]? = some (.cells C el (lo, hi))) (hn : n ≠ 0) :
    (w1.freeze ⟨c, off, none⟩ n).heap = w1.heap.setIfInBounds c (.cells C el (if lo == hi then (off, off + n) else (min lo off, max hi (off + n)))) := by
  have hlt := (Array.getElem?_eq_some_iff.1 h).1
  apply Array.ext_getElem?
  intro d
  simp only [World.freeze, if_neg hn]
  rw [Array.getElem?_modify]
  by_cases hd : c = d
  · subst hd
    rw [if_pos rfl, h, Array.getElem?_setIfInBounds_self_of_lt hlt]; rfl
  · rw [if_neg hd, Array.getElem?_setIfInBounds_ne hd]
theorem freeze_os (w1 : World) (a : Addr) (n : Nat) : (w1.freeze a n).os = w1.os ∧ (w1.freeze a n).output = w1.output ∧ (w1.freeze a n).tape = w1.tape := by
  unfold World.freeze; split <;> exact ⟨rfl, rfl, rfl⟩

theorem convK_ok {src dst : TypeId} {v : AV} {x : Value} {K : AV → St → Bool} (h : convK P src dst v σ K = true) (hv : VRel e v x) (hw : WRel P X e σ w) : OkV P X e σ K ((convert src dst x).run P w) := by
  obtain ⟨q, hq, h1⟩ := optK_iff.1 h
  clear h
  unfold convOf at hq
  split at hq
  · -- numbers
    rename_i k0 k hs hd
    cases hq
    obtain ⟨k1, n, rfl, h2⟩ := onInt_iff.1 h1
    cases hv
    rw [intK_eq] at h2
    exact ⟨.int k (k.wrap n), _, e, σ, w, by simp [convert, run_underlying hs, run_underlying hd, Conv.intToInt], Env.Le.refl e, hw, rfl, h2, rfl⟩
  · rename_i hs hd
    cases hq
    obtain ⟨l, n, rfl, h2⟩ := onStr_iff.1 h1
    cases hv
    exact ⟨.str l n, _, e, σ, w, by simp [convert, run_underlying hs, run_underlying hd], Env.Le.refl e, hw, rfl, h2, rfl⟩
  · -- a string's bytes
    rename_i el hs hd
    split at hq
    · rename_i i he hi
      split at hq
      · rename_i hsz
        cases hq
        obtain ⟨l, n, rfl, h2⟩ := onStr_iff.1 h1
        cases hv
        have h3 := strCells_eq h2
        obtain ⟨c, h4, hc⟩ := fillK_ok h3
        obtain ⟨hs2, hk⟩ := newBlkK_iff.1 h4
        let cp := grownCap w l 0 el
        have hge : l ≤ cp := grownCap_ge w l 0 el
        let C : Array Value := (strOf l n).data.map (fun b => Value.int .u8 b.toNat) ++ Array.replicate (cp - l) (.int .u8 0)
        let w1 : World := w.drew.alloc (.cells C el (0, 0))
        have hCs : C.size = cp := by
          have : (strOf l n).data.size = l := size_strOf l n
          simp [C, this]; omega
        have hw1 : w1.heap[w.heap.size]? = some (.cells C el (0, 0)) := by
          show (w.heap.push _)[w.heap.size]? = _
          simp
        have hz : (convert src dst (.string (strOf l n))).run P w = .ok (.slice (some ⟨w.heap.size, 0, none⟩) l cp) (w1.freeze ⟨w.heap.size, C.size, none⟩ 1) := by
          have e1 : (convert src dst (.string (strOf l n))).run P w = (Conv.stringToBytes el (strOf l n)).run P w := by
            simp [convert, run_underlying hs, run_underlying hd, run_underlying he]
          rw [e1]
          have e2 : (strOf l n).size = l := size_strOf l n
          have hsh : w1.shape? w.heap.size = some (el, C.size) := shape?_of hw1
          unfold Conv.stringToBytes
          simp only [e2, Sem.run_bind, run_choose_drew, Question.forced, Bool.false_eq_true, if_false, Result.andThen_ok, run_newRow]
          show ((markStringish ⟨w.heap.size, 0, none⟩).run P w1).andThen _ = _
          simp only [markStringish, Sem.run_bind, run_shape, hsh, Result.andThen_ok, run_freeze, Sem.run_pure]
          rfl
        have hfz := heap_freeze (off := C.size) hw1 (n := 1) (by decide)
        obtain ⟨f1, f2, _⟩ := hw.fresh σ.nx (Nat.le_refl _)
        have hle := Env.le_bind (e := e) (c := w.heap.size) (k := some cp) f1 f2
        refine ⟨.slice σ.nx 0 l none, _, e.bind σ.nx w.heap.size (some cp), _, _, hz, hle, hw.new (o := .cells C el (C.size, C.size + 1)) hs2 (nx_ge hw) ?_ ?_ ?_ ?_ ?_, ⟨w.heap.size, cp, Env.bind_blk .., hge, fun _ => Env.bind_cap .., rfl⟩, hk, rfl⟩
        · rw [hfz]
          show (w.heap.push _).setIfInBounds w.heap.size _ = _
          apply Array.ext_getElem?
          intro d
          by_cases hd : w.heap.size = d
          · subst hd; simp
          · rw [Array.getElem?_setIfInBounds_ne hd, Array.getElem?_push, Array.getElem?_push, if_neg (Ne.symm hd), if_neg (Ne.symm hd)]
        · refine ⟨C, _, _, rfl, ⟨?_, by rw [hCs]; exact hge, (fun h => by cases h), fun _ => ⟨cp, i, Env.bind_cap .., hi, by rw [hCs, hsz, Nat.mul_one]⟩, fun j _ hj => by omega, (fun h => by cases h), ?_⟩⟩
          · intro j v hv
            rw [hc] at hv
            by_cases q : 0 ≤ j ∧ j < 0 + (byteVs l n).length
            · rw [if_pos q] at hv
              obtain ⟨x, hx1, hx2⟩ := (byteVs_rel (e.bind σ.nx w.heap.size (some cp)) l n).get hv
              refine ⟨x, ?_, hx2⟩
              have hjl : j < l := by rw [byteVs_length] at q; omega
              have : (strOf l n).data.size = l := size_strOf l n
              rw [Array.getElem?_append_left (by simp [this]; omega)]
              rw [← hx1]
              simp [strOf]
            · rw [if_neg q, get_eCs] at hv; cases hv
          · intro j hj
            rw [hc, if_neg (by rw [byteVs_length]; omega), get_eCs]
        · exact (freeze_os w1 _ 1).1
        · exact (freeze_os w1 _ 1).2.1
        · exact (freeze_os w1 _ 1).2.2
      · cases hq
    · cases hq
  · -- bytes as a string
    rename_i el hs hd
    split at hq
    · rename_i he
      cases hq
      obtain ⟨l, n, xs, b, cp, h2, rl, rfl, hlen, hf, _⟩ := readSlK_ok h1 hv hw
      obtain ⟨bs, h3, rfl⟩ := packCellsK_ok h2 rl
      have hbl : bs.length = n := by
        have := rl.length
        simp only [List.length_map] at this
        omega
      refine ⟨.str n (packL bs), _, e, σ, w, ?_, Env.Le.refl e, hw, rfl, h3, rfl⟩
      rw [run_convert_bytes_string w src dst el b n cp hs he hd]
      have hs2 : strOf n (packL bs) = ⟨bs.toArray⟩ := by rw [← hbl]; exact strOf_pack bs
      rw [hs2]
      cases b with
      | none =>
        have h0 := hf w.drawn
        simp only [Builtin.firstCells, Sem.run_pure] at h0
        have : bs = [] := by
          have := (Result.ok.inj h0).1
          have := congrArg Array.size this
          simp at this
          cases bs with
          | nil => rfl
          | cons _ _ => simp at this
        subst this
        simp [Conv.bytesToString]
        rfl
      | some a =>
        have h0 := hf w.drawn
        simp only [Builtin.firstCells, Nat.mul_one] at h0
        have h1 : (loadCells a n).run P w = .ok (((bs.map (fun b => (b.toNat : Int))).map (Value.int .u8))).toArray w := by
          rw [List.map_map]
          exact h0
        rw [run_bytesToString w a n cp _ h1, foldl_push]
        simp
    · cases hq
  · -- a pointer made unsafe
    rename_i t hs hd
    split at hq
    · rename_i i hi
      split at hq
      · cases hq
      · rename_i hsz
        cases hq
        rcases ptrN_iff.1 h1 with ⟨rfl, h2⟩ | ⟨b, o, rfl, h2⟩
        · cases hv
          exact ⟨.nilp, _, e, σ, w, by simp [convert, run_underlying hs, run_underlying hd, Conv.unsafePointer], Env.Le.refl e, hw, rfl, h2, rfl⟩
        · obtain ⟨a, hb, rfl⟩ := hv
          obtain ⟨A, hA, h3⟩ := hGetK_iff.1 h2
          obtain ⟨cs, n, el, op, fz, st, rfl, h4⟩ := onCells_iff.1 h3
          obtain ⟨h5, h6⟩ := ifB_iff.1 h4
          have h5' : o + 1 ≤ n := Nat.le_of_ble_eq_true h5
          obtain ⟨c', ob, hc', hob, ⟨C, lo, hi', rfl, hrel⟩, _⟩ := hw.blk b _ hA
          rw [hb] at hc'; cases hc'
          have hnn := hrel.le
          refine ⟨.ptr b o, _, e, σ, w, ?_, Env.Le.refl e, hw, ⟨a, hb, rfl⟩, h6, rfl⟩
          have c1 : ¬ C.size ≤ o := by omega
          have c2 : (sizeOf t).run P w = .ok i.size w := run_size hi
          simp [convert, run_underlying hs, run_underlying hd, Conv.unsafePointer, seenAt_of hob, cellsIn_of hob, c2, hsz, c1]
    · cases hq
  · -- and back
    rename_i u hs hd
    split at hq
    · rename_i i hi
      split at hq
      · cases hq
      · rename_i hsz
        cases hq
        rcases ptrN_iff.1 h1 with ⟨rfl, h2⟩ | ⟨b, o, rfl, h2⟩
        · cases hv
          exact ⟨.nilp, _, e, σ, w, by simp [convert, run_underlying hs, run_underlying hd, Conv.unsafePointer], Env.Le.refl e, hw, rfl, h2, rfl⟩
        · obtain ⟨a, hb, rfl⟩ := hv
          obtain ⟨A, hA, h3⟩ := hGetK_iff.1 h2
          obtain ⟨cs, n, el, op, fz, st, rfl, h4⟩ := onCells_iff.1 h3
          cases op with
          | true => cases h4
          | false =>
          obtain ⟨h5, h6⟩ := ifB_iff.1 (show ifB (Go.liesAt P P.depth el (Nat.div n (P.cellsOf el)) o u 1) _ false = true from h4)
          obtain ⟨c', ob, hc', hob, ⟨C, lo, hi', rfl, hrel⟩, _⟩ := hw.blk b _ hA
          rw [hb] at hc'; cases hc'
          have hCn : C.size = n := hrel.closed rfl
          refine ⟨.ptr b o, _, e, σ, w, ?_, Env.Le.refl e, hw, ⟨a, hb, rfl⟩, h6, rfl⟩
          have c2 : (sizeOf u).run P w = .ok i.size w := run_size hi
          have c3 : (variablesAt ⟨a, o, none⟩ u 1).run P w = .ok true w := by
            have : liesAt P P.depth el (n / P.cellsOf el) o u 1 = true := h5
            simp [variablesAt, shape?_of hob, hCn, this]
          simp [convert, run_underlying hs, run_underlying hd, Conv.unsafePointer, seenAt_of hob, c2, c3]
    · cases hq
  · cases hq

theorem sliceDataK_ok {ts : Array TypeId} {ty : TypeId} {v : AV} {x : Value} {K : AV → Bool} (h : sliceDataK v K = true) (hv : VRel e v x) :
    ∃ u z, K u = true ∧ VRel e u z ∧ (Builtin.unsafeSliceData_ ts ty #[x]).run P w = .ok z w := by
  rcases onSliceN_iff.1 h with ⟨rfl, h1⟩ | ⟨b, o, l, c, rfl, h1⟩
  · cases hv
    exact ⟨_, _, h1, rfl, Lib.run_unsafeSliceData_nil w ts ty 0 0⟩
  · obtain ⟨a, cp, hb, hle, hc, rfl⟩ := hv
    cases c with
    | none =>
      rw [optB_none] at h1
      cases hz : Nat.beq l 0 with
      | true => rw [hz, ifB_true] at h1; cases h1
      | false =>
        rw [hz, ifB_false] at h1
        have := beq_false hz
        exact ⟨_, _, h1, ⟨a, hb, rfl⟩, Lib.run_unsafeSliceData_row w ts ty _ l cp (by omega)⟩
    | some c =>
      rw [optB_some] at h1
      have : cp = c := hc
      subst this
      cases hz : Nat.beq cp 0 with
      | true => rw [hz, ifB_true] at h1; cases h1
      | false =>
        rw [hz, ifB_false] at h1
        exact ⟨_, _, h1, ⟨a, hb, rfl⟩, Lib.run_unsafeSliceData_row w ts ty _ l cp (beq_false hz)⟩

theorem liesAt_bytes' {el : TypeId} (hc : P.cellsOf el = 1) (count o n : Nat) (hn : o + n ≤ count) : liesAt P P.depth el count o el n = true := by
  have hd : P.depth = (2 * (P.types.size + Made.depth) + 1) + 1 := rfl
  rw [hd]
  simp only [liesAt, Bool.or_eq_true]
  left
  rw [hd]
  simp [rowAt, hc, hn, sameLayout, Nat.mod_one]

theorem rel_cells {cs : Cs} {C : Array Value} (hC : CRel e cs C) : ∀ (l : List AV) (o : Nat), RdL cs o l → ∃ xs, LRel e l xs ∧ ∀ (j : Nat) x, xs[j]? = some x → C[o + j]? = some x
  | [], o, _ => ⟨[], rfl, fun j x h => by simp at h⟩
  | v :: l, o, h => by
    obtain ⟨x, h1, h2⟩ := hC _ _ (h 0 v rfl)
    obtain ⟨xs, h3, h4⟩ := rel_cells hC l (o + 1) (fun j u hu => by have := h (j + 1) u (by simpa using hu); rwa [show o + (j + 1) = o + 1 + j by omega] at this)
    refine ⟨x :: xs, .cons h2 h3, fun j y hy => ?_⟩
    cases j with
    | zero => simp at hy; subst hy; exact h1
    | succ j => simp at hy; have := h4 j y hy; rwa [show o + (j + 1) = o + 1 + j by omega]

theorem byteElem_ok {ts : Array TypeId} {u : TypeId} (h : byteElem P ts.toList = some u) : ∃ t i, ts[0]? = some t ∧ P.underlying t = some (.pointer u) ∧ P.underlying u = some (.int .u8) ∧ P.info? u = some i ∧ i.size = 1 := by
  unfold byteElem at h
  rw [Array.getElem?_toList] at h
  split at h
  · rename_i t ht
    split at h
    · rename_i el hp
      split at h
      · rename_i i he hi
        split at h
        · rename_i hs; cases h; exact ⟨t, i, ht, hp, he, hi, hs⟩
        · cases h
      · cases h
    · cases h
  · cases h

theorem unsafeStringK_ok {ts : Array TypeId} {ty : TypeId} {p n : AV} {p' n' : Value} {K : AV → St → Bool} (h : unsafeStringK P ts.toList p n σ K = true) (hp : VRel e p p') (hn : VRel e n n') (hw : WRel P X e σ w) (h0 : (ts[0]?).isSome = true) :
    OkV P X e σ K ((Builtin.unsafeString_ ts ty #[p', n']).run P w) := by
  obtain ⟨k, m, rfl, h1⟩ := natK_ok h hn
  clear h
  obtain ⟨t, ht⟩ := Option.isSome_iff_exists.1 h0
  have hmax : IntKind.i64.max = 9223372036854775807 := rfl
  have hnone : Builtin.unsafeString_ ts ty #[.pointer none, .int k (Int.ofNat m)] =
      (do
        let n ← asInt (.int k (Int.ofNat m))
        let some _ := ts[0]? | stuck "unsafe.String: no argument types"
        if n < 0 then runtimePanic (.error "unsafe.String: len out of range")
        if n > IntKind.i64.max then unsupported (.unsafePointer "String: a length above the largest int")
        if n = 0 then pure (.string .empty)
        else runtimePanic (.error "unsafe.String: ptr is nil and len is not zero")) := rfl
  have hsome : ∀ a : Addr, Builtin.unsafeString_ ts ty #[.pointer (some a), .int k (Int.ofNat m)] =
      (do
        let n ← asInt (.int k (Int.ofNat m))
        let some pt := ts[0]? | stuck "unsafe.String: no argument types"
        if n < 0 then runtimePanic (.error "unsafe.String: len out of range")
        if n > IntKind.i64.max then unsupported (.unsafePointer "String: a length above the largest int")
        if n = 0 then pure (.string .empty)
        else if ← variablesAt a (← elemOf pt) n.toNat then do
          let s ← loadBytes a .empty n.toNat
          freeze a n.toNat
          pure (.string s)
        else unsupported (.unsafePointer "String: not so many bytes at ptr")) := fun _ => rfl
  cases hz : Nat.beq m 0 with
  | true =>
    rw [hz, ifB_true] at h1
    have := beq_true hz
    subst this
    rcases ptrN_iff.1 h1 with ⟨rfl, h2⟩ | ⟨b, o, rfl, h2⟩
    · cases hp
      refine ⟨.str 0 0, .string (strOf 0 0), e, σ, w, ?_, Env.Le.refl e, hw, rfl, h2, rfl⟩
      rw [hnone]
      simp [ht, asInt, asIntOf, hmax]
      rfl
    · obtain ⟨a, hb, rfl⟩ := hp
      refine ⟨.str 0 0, .string (strOf 0 0), e, σ, w, ?_, Env.Le.refl e, hw, rfl, h2, rfl⟩
      rw [hsome]
      simp [ht, asInt, asIntOf, hmax]
      rfl
  | false =>
    rw [hz, ifB_false] at h1
    have hm0 := beq_false hz
    obtain ⟨u, hu, h2⟩ := optK_iff.1 h1
    obtain ⟨t', i, ht', hpt, he, hi, hsz⟩ := byteElem_ok hu
    rw [ht] at ht'; cases ht'
    obtain ⟨b, o, rfl, h3⟩ := onPtr_iff.1 h2
    obtain ⟨a, hb, rfl⟩ := hp
    obtain ⟨A, hA, h4⟩ := hGetK_iff.1 h3
    obtain ⟨cs, nn, el, op, fz, st, rfl, h5⟩ := onCells_iff.1 h4
    cases st with
    | true => cases h5
    | false =>
    rw [ifB_false] at h5
    obtain ⟨p0, h55⟩ := ifB_iff.1 h5
    have p0' : m ≤ 9223372036854775807 := Nat.le_of_ble_eq_true p0
    obtain ⟨p1, h6⟩ := ifB_iff.1 h55
    have := beq_true p1
    subst this
    obtain ⟨p2, h7⟩ := ifB_iff.1 h6
    have p2' : o + m ≤ nn := Nat.le_of_ble_eq_true p2
    obtain ⟨l, hl, hr, h8⟩ := rdK_ok h7
    rw [List.append_nil] at h8
    obtain ⟨c', ob, hc', hob, ⟨C, lo, hi', rfl, hrel⟩, hF⟩ := hw.blk b _ hA
    rw [hb] at hc'; cases hc'
    obtain ⟨xs, rl, hxs⟩ := rel_cells hrel.rel l o hr
    obtain ⟨bs, h9, rfl⟩ := packCellsK_ok h8 rl
    have hbl : bs.length = m := by
      have := rl.length
      simp only [List.length_map] at this
      omega
    rw [forceN_eq] at h9
    obtain ⟨hslot, hK⟩ := hSetK_iff.1 h9
    have hfz : (cond (Nat.ble fz (Nat.add o m)) (Nat.add o m) fz) = max fz (o + m) := by
      show cond (Nat.ble fz (o + m)) (o + m) fz = _
      cases q : Nat.ble fz (o + m) with
      | true => have := Nat.le_of_ble_eq_true q; simp; omega
      | false =>
        have : ¬ fz ≤ o + m := fun hh => by rw [Nat.ble_eq_true_of_le hh] at q; cases q
        simp; omega
    have hCn := hrel.le
    obtain ⟨hlo0, hhi0⟩ := hrel.plain rfl
    have hlh := hlo0.trans hhi0.symm
    clear hlo0 hhi0
    subst hlh
    have hfr := heap_freeze (off := o) hob hm0
    rw [show (lo == lo) = true by simp, if_pos rfl] at hfr
    have hlb := Lib.run_loadBytes (P := P) w bs ⟨a, o, none⟩ .empty (fun j x hj => by
      rw [Addr.add_none, cell?_of hob]
      exact hxs j _ (by simp [hj]))
    have hcl : P.cellsOf el = 1 := by simp [Program.cellsOf, hi, hsz]
    have hli := liesAt_bytes' (P := P) hcl (C.size / P.cellsOf el) o m (by rw [hcl]; simp; omega)
    have hva : (variablesAt ⟨a, o, none⟩ el m).run P w = .ok true w := by simp [variablesAt, shape?_of hob, hli]
    have h63 : ¬ ((9223372036854775807 : Int) < (m : Int)) := by omega
    refine ⟨.str m (packL bs), .string (strOf m (packL bs)), e, _, w.freeze ⟨a, o, none⟩ m, ?_, Env.Le.refl e, hw.set (A' := .cells cs nn el op (cond (Nat.ble fz (Nat.add o m)) (Nat.add o m) fz) true) hA hb hslot
      ⟨C, _, _, rfl, ⟨hrel.rel, hrel.le, hrel.closed, hrel.opened, fun j h1 h2 => ?_, (fun h => by cases h), hrel.bound⟩⟩ hfr (freeze_os ..).1 (freeze_os ..).2.1 (freeze_os ..).2.2, rfl, hK, rfl⟩
    · rw [hsome]
      have hneg : ¬ (m : Int) < 0 := by omega
      have e0 : Int.ofNat m = (m : Int) := rfl
      have hs2 : strOf m (packL bs) = ⟨bs.toArray⟩ := by rw [← hbl]; exact strOf_pack bs
      rw [hs2]
      have hlb' : (loadBytes ⟨a, o, none⟩ .empty m).run P w = .ok ⟨bs.toArray⟩ w := by
        rw [← hbl, hlb]; simp
      simp [ht, asInt, asIntOf, hmax, h63, hneg, hm0, hva, elemOf, run_underlying hpt, hlb']
    · rw [hfz] at h1; omega
end
end Go.Ev

/- The evaluator, part 18: maps. -/
namespace Go.Ev
section
variable {P : Program} {X : Fix} {e : Env} {σ : St} {w : World}

/-! ### Keys that hash -/
theorem checkItems_ok {d : Nat} {el : TypeId} {i : TypeInfo} {em : Bool} (hi : P.info? el = some i) (hs : i.size = 1) {F : AV → Bool} (hsh : shapeOf P el = some none)
    (ih : ∀ {x x'}, F x = true → VRel e x x' → (Instr.checkKey em d el x').run P w = .ok () w) :
    ∀ (cs : List AV) (xs pre : List Value), LRel e cs xs → List.rec (motive := fun _ => Bool) true (fun x _ again => ifB (F x) again false) cs = true →
      (forIn (List.range' pre.length cs.length) PUnit.unit (fun j _ => do
        Instr.checkKey em d el (← part el (pre ++ xs).toArray (j * (← sizeOf el)))
        pure (ForInStep.yield PUnit.unit)) : Sem PUnit).run P w = .ok () w
  | [], xs, pre, _, _ => by simp
  | c :: cs, xs, pre, hl, h => by
    obtain ⟨x, ys, r1, r2, rfl⟩ := hl
    obtain ⟨h1, h2⟩ := ifB_iff.1 (show ifB (F c) _ false = true from h)
    have hp : (part el (pre ++ x :: ys).toArray (pre.length * i.size)).run P w = .ok x w := by
      rw [hs, Nat.mul_one]
      simp [part, run_isAgg_none hsh]
    have hz : (sizeOf el).run P w = .ok i.size w := run_size hi
    have ih2 := checkItems_ok hi hs hsh ih cs ys (pre ++ [x]) r2 h2
    simp only [List.length_cons, List.range'_succ, List.forIn_cons, Sem.run_bind, hz, Result.andThen_ok, hp, ih h1 r1, Sem.run_pure]
    simpa using ih2

theorem checkFields_ok {d : Nat} {em : Bool} {F : TypeId → AV → Bool} {cs : List AV} {xs : List Value} (hl : LRel e cs xs)
    (ih : ∀ {t x x'}, F t x = true → VRel e x x' → (Instr.checkKey em d t x').run P w = .ok () w) :
    ∀ (fs : List Field) (l : List (TypeId × Nat × Option Nat)), eqFields P fs = some l →
      List.rec (motive := fun _ => Bool) true (fun f _ again => ifB (partAtK f.2.2 f.2.1 cs fun x => F f.1 x) again false) l = true →
      (forIn fs PUnit.unit (fun f _ => if f.name ≠ "_" then do
          Instr.checkKey em d f.type (← part f.type xs.toArray f.offset)
          pure (ForInStep.yield PUnit.unit)
        else pure (ForInStep.yield PUnit.unit)) : Sem PUnit).run P w = .ok () w
  | [], l, _, _ => by simp
  | f :: fs, l, hl2, h => by
    unfold eqFields at hl2
    split at hl2
    · cases hl2
    · rename_i hn
      split at hl2
      · rename_i sh l' hsh hl'
        cases hl2
        obtain ⟨h1, h2⟩ := ifB_iff.1 (show ifB (partAtK sh f.offset cs fun x => F f.type x) _ false = true from h)
        obtain ⟨u, a, h3, q1, q2⟩ := partAtK_ok (w := w) hsh h1 hl
        have ih2 := checkFields_ok hl ih fs l' hl' h2
        simp only [List.forIn_cons, ne_eq, hn, not_false_eq_true, if_true, Sem.run_bind, q2, Result.andThen_ok, ih h3 q1, Sem.run_pure]
        exact ih2
      · cases hl2

theorem keyFine_ok {em : Bool} : ∀ {fuel d : Nat}, fuel ≤ d → ∀ {t : TypeId} {v : AV} {x : Value}, keyFine P fuel t v = true → VRel e v x → (Instr.checkKey em d t x).run P w = .ok () w
  | 0, _, _, _, _, _, h, _ => nomatch (show false = true from h)
  | fuel + 1, 0, hf, _, _, _, _, _ => by omega
  | fuel + 1, d + 1, hf, t, v, x, h, hv => by
    have ih : ∀ {t x x'}, keyFine P fuel t x = true → VRel e x x' → (Instr.checkKey em d t x').run P w = .ok () w := fun h hx => keyFine_ok (by omega) h hx
    have h0 : (match P.underlying t with
      | some (.interface _) => false
      | some (.array len el) => match shapeOf P el with
        | some none => ifB (Nat.beq (P.cellsOf el) 1) (onAgg v fun cs => ifB (Nat.beq (lenL cs) len) (List.rec true (fun x _ again => ifB (keyFine P fuel el x) again false) cs) false) false
        | _ => false
      | some (.struct fs) => match eqFields P fs.toList with
        | some l => onAgg v fun cs => List.rec true (fun f _ again => ifB (partAtK f.2.2 f.2.1 cs fun x => keyFine P fuel f.1 x) again false) l
        | none => false
      | some _ => true
      | none => false) = true := h
    split at h0
    · cases h0
    · rename_i len el hu
      split at h0
      · rename_i hsh
        obtain ⟨h1, h2⟩ := ifB_iff.1 h0
        obtain ⟨cs, rfl, h3⟩ := onAgg_iff.1 h2
        obtain ⟨h4, h5⟩ := ifB_iff.1 h3
        obtain ⟨xs, hl, rfl⟩ := hv
        have hlen : cs.length = len := by rw [← lenL_eq]; exact beq_true h4
        have hc := beq_true h1
        obtain ⟨i, hi⟩ : ∃ i, P.info? el = some i := by
          cases hi : P.info? el with
          | some i => exact ⟨i, rfl⟩
          | none => simp [Program.cellsOf, hi] at hc
        have hs : i.size = 1 := by simpa [Program.cellsOf, hi] using hc
        have := checkItems_ok (em := em) hi hs hsh (F := fun x => keyFine P fuel el x) (fun h hx => ih h hx) cs xs [] hl h5
        simp only [Instr.checkKey, Sem.run_bind, run_underlying hu, Result.andThen_ok]
        simp only [Std.Legacy.Range.forIn_eq_forIn_range', Std.Legacy.Range.size, Nat.sub_zero, Nat.add_one_sub_one, Nat.div_one]
        rw [← hlen]
        simp at this ⊢
        rw [this]; rfl
      · cases h0
    · rename_i fs hu
      split at h0
      · rename_i l hl'
        obtain ⟨cs, rfl, h3⟩ := onAgg_iff.1 h0
        obtain ⟨xs, hl, rfl⟩ := hv
        have := checkFields_ok (em := em) hl (F := fun t x => keyFine P fuel t x) (fun h hx => ih h hx) fs.toList l hl' h3
        simp only [Instr.checkKey, Sem.run_bind, run_underlying hu, Result.andThen_ok]
        rw [← Array.forIn_toList]
        simp at this ⊢
        rw [this]; rfl
      · cases h0
    · rename_i dd n1 n2 n3 hu
      simp only [Instr.checkKey, Sem.run_bind, run_underlying hu, Result.andThen_ok]
      cases dd <;> first | rfl | exact absurd hu (n1 _) | exact absurd hu (n2 _ _) | exact absurd hu (n3 _) | exact absurd rfl (n1 _) | exact absurd rfl (n2 _ _) | exact absurd rfl (n3 _)
    · cases h0

/-! ### Finding -/
theorem sameNow_eq {kind : TypeDesc} {t : TypeId} {x y : Value} {b r : Bool} {d : Nat} (hu : P.underlying t = some kind) (h : Instr.sameNow kind x y = some b) (hr : (Op.equalIn (d + 1) t x y).run P w = .ok r w) : b = r := by
  unfold Instr.sameNow at h
  split at h
  · split at h
    · rename_i k a k' b' hk
      subst hk
      cases h
      simp [Op.equalIn, run_underlying hu] at hr
      exact hr
    · cases h
  · cases h
    simp only [Op.equalIn, Sem.run_bind, run_underlying hu, Result.andThen_ok, Sem.run_pure] at hr
    exact (Result.ok.inj hr).1
  · cases h
    simp only [Op.equalIn, Sem.run_bind, run_underlying hu, Result.andThen_ok, Sem.run_pure] at hr
    exact (Result.ok.inj hr).1
  · cases h

/-- Of a finding what both sides say: none; or at a place, where an entry's value lies. -/
def FRes (e : Env) (es : List AEnt) (base : Nat) : Option (Nat × AV) → Option (Nat × Value) → Prop
  | none, none => True
  | some (i, v), some (j, x) => i = j ∧ base ≤ i ∧ (∃ a, es[i - base]? = some a ∧ a.val = v) ∧ VRel e v x
  | _, _ => False

theorem findK_ok {kt : TypeId} {kind : TypeDesc} {k : AV} {k' : Value} (hu : P.underlying kt = some kind) (hk : VRel e k k') (hw : WRel P X e σ w) {K : Option (Nat × AV) → Bool} :
    ∀ (es : List AEnt) (xs : List MapEntry) (i : Nat), EsRel e es xs →
      List.rec (motive := fun _ => Nat → Bool) (fun _ => K none) (fun e _ ih i => eqvK P eqFuel kt k e.key σ fun r => ifB r (K (some (i, e.val))) (ih (Nat.succ i))) es i = true →
      ∃ r r', K r = true ∧ FRes e es i r r' ∧ (Instr.findAsking kt k' xs i).run P w = .ok r' w ∧ (Instr.findNow kind k' xs i = none ∨ Instr.findNow kind k' xs i = some r')
  | [], xs, i, hE, h => by
    cases hE
    exact ⟨none, none, h, trivial, rfl, .inr rfl⟩
  | a :: es, xs, i, hE, h => by
    obtain ⟨y, ys, ⟨q1, q2, q3⟩, hE', rfl⟩ := hE
    obtain ⟨r, h1, h2⟩ := eqvK_ok (show eqFuel ≤ 10000 by decide) (show eqvK P eqFuel kt k a.key σ _ = true from h) hk q1 hw
    cases r with
    | true =>
      refine ⟨some (i, a.val), some (i, y.val), h1, ⟨rfl, Nat.le_refl _, ⟨a, by simp, rfl⟩, q2⟩, ?_, ?_⟩
      · simp only [Instr.findAsking, Sem.run_bind, show Op.equal kt k' y.key = Op.equalIn 10000 kt k' y.key from rfl, h2, Result.andThen_ok]
        rfl
      · simp only [Instr.findNow]
        cases hs : Instr.sameNow kind k' y.key with
        | none => exact .inl rfl
        | some b => have := sameNow_eq hu hs h2; subst this; exact .inr rfl
    | false =>
      obtain ⟨r, r', g1, g2, g3, g4⟩ := findK_ok hu hk hw es ys (i + 1) hE' h1
      refine ⟨r, r', g1, ?_, ?_, ?_⟩
      · cases r with
        | none => cases r' with
          | none => exact trivial
          | some _ => exact g2
        | some p => cases r' with
          | none => exact g2
          | some p' =>
            obtain ⟨p1, p2⟩ := p
            obtain ⟨p1', p2'⟩ := p'
            obtain ⟨c1, c2, ⟨c, c3, c4⟩, c5⟩ := g2
            refine ⟨c1, by omega, ⟨c, ?_, c4⟩, c5⟩
            rw [show p1 - i = (p1 - (i + 1)) + 1 by omega]
            simpa using c3
      · simp only [Instr.findAsking, Sem.run_bind, show Op.equal kt k' y.key = Op.equalIn 10000 kt k' y.key from rfl, h2, Result.andThen_ok]
        exact g3
      · simp only [Instr.findNow]
        cases hs : Instr.sameNow kind k' y.key with
        | none => exact .inl rfl
        | some b => have := sameNow_eq hu hs h2; subst this; exact g4

theorem findK_key {kt : TypeId} {d : TypeDesc} {k : AV} {k' : Value} (hu : P.underlying kt = some d) (hk : VRel e k k') (hw : WRel P X e σ w) {K : Option (Nat × AV) → Bool} {es : List AEnt} {xs : List MapEntry} (hE : EsRel e es xs)
    (h : findK P kt k σ es K = true) : ∃ r r', K r = true ∧ FRes e es 0 r r' ∧ (Instr.findKey kt k' xs).run P w = .ok r' w := by
  obtain ⟨r, r', h1, h2, h3, h4⟩ := findK_ok hu hk hw es xs 0 hE h
  refine ⟨r, r', h1, h2, ?_⟩
  simp only [Instr.findKey, Sem.run_bind, run_underlying hu, Result.andThen_ok]
  rcases h4 with h4 | h4 <;> rw [h4]
  · exact h3
  · rfl

theorem keyFine_desc {fuel : Nat} {t : TypeId} {v : AV} (h : keyFine P fuel t v = true) : ∃ d, P.underlying t = some d := by
  cases fuel with
  | zero => exact nomatch (show false = true from h)
  | succ n =>
    cases hu : P.underlying t with
    | some d => exact ⟨d, rfl⟩
    | none =>
      exfalso
      have h0 : (match P.underlying t with
        | some (.interface _) => false
        | some (.array len el) => match shapeOf P el with
          | some none => ifB (Nat.beq (P.cellsOf el) 1) (onAgg v fun cs => ifB (Nat.beq (lenL cs) len) (List.rec true (fun x _ again => ifB (keyFine P n el x) again false) cs) false) false
          | _ => false
        | some (.struct fs) => match eqFields P fs.toList with
          | some l => onAgg v fun cs => List.rec true (fun f _ again => ifB (partAtK f.2.2 f.2.1 cs fun x => keyFine P n f.1 x) again false) l
          | none => false
        | some _ => true
        | none => false) = true := h
      rw [hu] at h0
      cases h0

theorem onMapBlk_ok {m : AV} {x : Value} {N : Bool} {K : Nat → List AEnt → Nat → Bool} (h : onMapBlk m σ N K = true) (hm : VRel e m x) (hw : WRel P X e σ w) :
    (x = .map none ∧ N = true) ∨ ∃ b c es ck E, m = .map b ∧ x = .map (some c) ∧ e.blk b = some c ∧ σ.get b = some (.map es ck) ∧ w.heap[c]? = some (.map E ck) ∧ EsRel e es E.toList ∧ K b es ck = true := by
  rcases onMapN_iff.1 h with ⟨rfl, h1⟩ | ⟨b, rfl, h1⟩
  · cases hm; exact .inl ⟨rfl, h1⟩
  · obtain ⟨c, hc, rfl⟩ := hm
    obtain ⟨A, hA, h2⟩ := hGetK_iff.1 h1
    obtain ⟨es, ck, rfl, h3⟩ := onMapB_iff.1 h2
    obtain ⟨c', ob, hc', hob, ⟨E, rfl, hE⟩, _⟩ := hw.blk b _ hA
    rw [hc] at hc'; cases hc'
    exact .inr ⟨b, c, es, ck, E, rfl, rfl, hc, hA, hob, hE, h3⟩

theorem lookupK_ok {t : TypeId} {m k : AV} {m' k' : Value} {ok : Bool} {K : AV → Bool} (h : lookupK P t m k ok σ K = true) (hm : VRel e m m') (hk : VRel e k k') (hw : WRel P X e σ w) :
    ∃ u z, K u = true ∧ VRel e u z ∧ (Instr.lookup t m' k' ok).run P w = .ok z w := by
  obtain ⟨q, hq, h1⟩ := optK_iff.1 h
  have hu := mapOf_ok hq
  obtain ⟨h2, h3⟩ := ifB_iff.1 h1
  obtain ⟨d, hd⟩ := keyFine_desc h2
  have hck : ∀ em, (Instr.checkKey em 10000 q.1 k').run P w = .ok () w := fun em => keyFine_ok (by decide) h2 hk
  cases ok with
  | true =>
    rw [ifB_true] at h3
    rcases onMapBlk_ok h3 hm hw with ⟨rfl, h4⟩ | ⟨b, c, es, ck, E, rfl, rfl, hc, hA, hob, hE, h4⟩
    · obtain ⟨z, hz, h5⟩ := optK_iff.1 h4
      obtain ⟨zv, hz1, hz2⟩ := zeroV_ok (w := w) (e := e) hz
      refine ⟨_, .tuple #[zv, .bool false], h5, ⟨[zv, .bool false], .cons hz2 (.one rfl), rfl⟩, ?_⟩
      simp [Instr.lookup, run_underlying hu, hck, Instr.findKey, run_underlying hd, Instr.findNow, hz1]
    · obtain ⟨r, r', h5, h6, h7⟩ := findK_key hd hk hw hE h4
      cases r with
      | none => cases r' with
        | some _ => exact h6.elim
        | none =>
          rw [optB_none] at h5
          obtain ⟨z, hz, h8⟩ := optK_iff.1 h5
          obtain ⟨zv, hz1, hz2⟩ := zeroV_ok (w := w) (e := e) hz
          refine ⟨_, .tuple #[zv, .bool false], h8, ⟨[zv, .bool false], .cons hz2 (.one rfl), rfl⟩, ?_⟩
          simp [Instr.lookup, run_underlying hu, MapKept.run_getObj_map hob, hck, h7, hz1]
      | some p => cases r' with
        | none => exact h6.elim
        | some p' =>
          rw [optB_some] at h5
          obtain ⟨p1, p2⟩ := p
          obtain ⟨p1', p2'⟩ := p'
          obtain ⟨_, _, _, c5⟩ := h6
          refine ⟨_, .tuple #[p2', .bool true], h5, ⟨[p2', .bool true], .cons c5 (.one rfl), rfl⟩, ?_⟩
          simp [Instr.lookup, run_underlying hu, MapKept.run_getObj_map hob, hck, h7]
  | false =>
    rw [ifB_false] at h3
    rcases onMapBlk_ok h3 hm hw with ⟨rfl, h4⟩ | ⟨b, c, es, ck, E, rfl, rfl, hc, hA, hob, hE, h4⟩
    · obtain ⟨z, hz, h5⟩ := optK_iff.1 h4
      obtain ⟨zv, hz1, hz2⟩ := zeroV_ok (w := w) (e := e) hz
      refine ⟨_, zv, h5, hz2, ?_⟩
      simp [Instr.lookup, run_underlying hu, hck, Instr.findKey, run_underlying hd, Instr.findNow, hz1]
    · obtain ⟨r, r', h5, h6, h7⟩ := findK_key hd hk hw hE h4
      cases r with
      | none => cases r' with
        | some _ => exact h6.elim
        | none =>
          rw [optB_none] at h5
          obtain ⟨z, hz, h8⟩ := optK_iff.1 h5
          obtain ⟨zv, hz1, hz2⟩ := zeroV_ok (w := w) (e := e) hz
          refine ⟨_, zv, h8, hz2, ?_⟩
          simp [Instr.lookup, run_underlying hu, MapKept.run_getObj_map hob, hck, h7, hz1]
      | some p => cases r' with
        | none => exact h6.elim
        | some p' =>
          rw [optB_some] at h5
          obtain ⟨p1, p2⟩ := p
          obtain ⟨p1', p2'⟩ := p'
          obtain ⟨_, _, _, c5⟩ := h6
          refine ⟨_, p2', h5, c5, ?_⟩
          simp [Instr.lookup, run_underlying hu, MapKept.run_getObj_map hob, hck, h7]
end
end Go.Ev

/- The evaluator, part 19: maps, changed and ranged over. -/
namespace Go.Ev

theorem snocK_eq : ∀ {es : List AEnt} {a : AEnt} {K : List AEnt → Bool}, snocK es a K = K (es ++ [a])
  | [], _, _ => rfl
  | _ :: es, a, K => (snocK_eq (es := es) (a := a) (K := fun r => K (_ :: r)))
theorem setNthK_ok {g : AEnt → Bool} {u : AEnt → AEnt} : ∀ {es : List AEnt} {i : Nat} {K : List AEnt → Bool}, setNthK es i (fun e K' => ifB (g e) (K' (u e)) false) K = true →
    ∃ a, es[i]? = some a ∧ g a = true ∧ K (es.set i (u a)) = true
  | [], i, K, h => nomatch (show false = true from h)
  | a :: es, 0, K, h => by
    obtain ⟨h1, h2⟩ := ifB_iff.1 (show ifB (g a) (K (u a :: es)) false = true from h)
    exact ⟨a, rfl, h1, h2⟩
  | a :: es, i + 1, K, h => by
    obtain ⟨b, h1, h2, h3⟩ := setNthK_ok (es := es) (i := i) (K := fun r => K (a :: r)) h
    exact ⟨b, by simpa using h1, h2, by simpa using h3⟩

theorem EsRel.get {e : Env} : ∀ {as : List AEnt} {xs : List MapEntry} {i : Nat} {a : AEnt}, EsRel e as xs → as[i]? = some a → ∃ x, xs[i]? = some x ∧ EntRel e a x
  | [], _, _, _, _, h => by simp at h
  | b :: as, _, 0, a, ⟨x, xs, p, q, s⟩, h => by simp at h; subst h s; exact ⟨x, rfl, p⟩
  | b :: as, _, i + 1, a, ⟨x, xs, p, q, s⟩, h => by
    simp at h; subst s
    obtain ⟨y, h1, h2⟩ := EsRel.get q h
    exact ⟨y, by simpa using h1, h2⟩
theorem EsRel.append {e : Env} : ∀ {as bs : List AEnt} {xs ys : List MapEntry}, EsRel e as xs → EsRel e bs ys → EsRel e (as ++ bs) (xs ++ ys)
  | [], _, _, _, r, r' => by cases r; simpa using r'
  | _ :: _, _, _, _, ⟨x, xs, p, q, s⟩, r' => by subst s; exact ⟨x, _, p, EsRel.append q r', rfl⟩
theorem EsRel.set {e : Env} {f : MapEntry → MapEntry} : ∀ {as : List AEnt} {xs : List MapEntry} {i : Nat} {a a' : AEnt} {x : MapEntry}, EsRel e as xs → as[i]? = some a → xs[i]? = some x → EntRel e a' (f x) → EsRel e (as.set i a') (xs.modify i f)
  | [], _, _, _, _, _, _, h, _, _ => by simp at h
  | b :: as, _, 0, a, a', x, ⟨y, ys, p, q, s⟩, h, hx, hr => by
    subst s; simp at hx; subst hx
    exact ⟨f y, ys, hr, q, by simp⟩
  | b :: as, _, i + 1, a, a', x, ⟨y, ys, p, q, s⟩, h, hx, hr => by
    subst s
    exact ⟨y, ys.modify i f, p, EsRel.set q (by simpa using h) (by simpa using hx) hr, by simp⟩
theorem EsRel.erase {e : Env} : ∀ {as : List AEnt} {xs : List MapEntry} {i : Nat}, EsRel e as xs → EsRel e (as.eraseIdx i) (xs.eraseIdx i)
  | [], _, _, r => by cases r; rfl
  | b :: as, _, 0, ⟨y, ys, p, q, s⟩ => by subst s; exact q
  | b :: as, _, i + 1, ⟨y, ys, p, q, s⟩ => by subst s; exact ⟨y, _, p, EsRel.erase q, rfl⟩
theorem EsRel.of_get {e : Env} : ∀ {as : List AEnt} {xs : List MapEntry} {i : Nat} {x : MapEntry}, EsRel e as xs → xs[i]? = some x → ∃ a, as[i]? = some a ∧ EntRel e a x
  | [], _, _, _, r, h => by cases r; simp at h
  | b :: as, _, 0, a, ⟨x, xs, p, q, s⟩, h => by subst s; simp at h; subst h; exact ⟨b, rfl, p⟩
  | b :: as, _, i + 1, a, ⟨x, xs, p, q, s⟩, h => by
    subst s; simp at h
    obtain ⟨y, h1, h2⟩ := EsRel.of_get q h
    exact ⟨y, by simpa using h1, h2⟩

section
variable {P : Program} {X : Fix} {e : Env} {σ : St} {w : World}

theorem sameKeys_ok {n : Nat} {F : AV → AV → Bool} (ih : ∀ {x y x' y'}, F x y = true → VRel e x x' → VRel e y y' → Instr.sameBits n x' y' = true) : ∀ (xs ys : List AV) (xs' ys' : List Value), LRel e xs xs' → LRel e ys ys' →
    List.rec (motive := fun _ => List AV → Bool) (fun ys => consB ys true fun _ _ => false) (fun x _ again ys => consB ys false fun y r => ifB (F x y) (again r) false) xs ys = true →
    xs'.length = ys'.length ∧ (xs'.zip ys').all (fun (x, y) => Instr.sameBits n x y) = true
  | [], [], _, _, hx, hy, _ => by cases hx; cases hy; simp
  | [], _ :: _, _, _, _, _, h => nomatch (show false = true from h)
  | _ :: _, [], _, _, _, _, h => nomatch (show false = true from h)
  | x :: xs, y :: ys, _, _, ⟨a, as, p1, p2, p3⟩, ⟨b, bs, q1, q2, q3⟩, h => by
    subst p3 q3
    obtain ⟨h1, h2⟩ := ifB_iff.1 (show ifB (F x y) _ false = true from h)
    obtain ⟨g1, g2⟩ := sameKeys_ok ih xs ys as bs p2 q2 h2
    exact ⟨by simp [g1], by simp only [List.zip_cons_cons, List.all_cons, ih h1 p1 q1, Bool.true_and]; exact g2⟩

theorem sameKey_ok : ∀ {fuel n : Nat}, fuel ≤ n → ∀ {a b : AV} {x y : Value}, sameKey fuel a b = true → VRel e a x → VRel e b y → Instr.sameBits n x y = true
  | 0, _, _, _, _, _, _, h, _, _ => nomatch (show false = true from h)
  | fuel + 1, 0, hf, _, _, _, _, _, _, _ => by omega
  | fuel + 1, n + 1, hf, a, b, x, y, h, hx, hy => by
    have h0 : (match (generalizing := false) a, b with
      | .bool a, .bool b => ifB a b (ifB b false true)
      | .int k a, .int k' b => ifB (Nat.beq (ikN k) (ikN k')) (eqI a b) false
      | .str l n, .str l' n' => ifB (Nat.beq l l') (Nat.beq n n') false
      | .nilp, .nilp => true
      | .ptr b o, .ptr b' o' => ifB (Nat.beq b b') (Nat.beq o o') false
      | .agg xs, .agg ys => List.rec (motive := fun _ => List AV → Bool) (fun ys => consB ys true fun _ _ => false)
          (fun x _ again ys => consB ys false fun y r => ifB (sameKey fuel x y) (again r) false) xs ys
      | _, _ => false) = true := h
    split at h0
    · cases hx; cases hy
      rename_i p q
      cases p <;> cases q <;> first | rfl | cases h0
    · cases hx; cases hy
      obtain ⟨h1, h2⟩ := ifB_iff.1 h0
      have := ikN_inj h1
      subst this
      rw [eqI_eq] at h2
      have := of_decide_eq_true h2
      subst this
      simp [Instr.sameBits]
    · cases hx; cases hy
      obtain ⟨h1, h2⟩ := ifB_iff.1 h0
      rw [beq_true h1, beq_true h2]
      show (_ == _) = true
      rw [beq_toListBytes]; simp
    · cases hx; cases hy; rfl
    · obtain ⟨h1, h2⟩ := ifB_iff.1 h0
      obtain ⟨c, hc, rfl⟩ := hx
      obtain ⟨c', hc', rfl⟩ := hy
      rw [beq_true h1, hc'] at hc; cases hc
      rw [beq_true h2]
      simp [Instr.sameBits]
    · obtain ⟨xs', rx, rfl⟩ := hx
      obtain ⟨ys', ry, rfl⟩ := hy
      obtain ⟨g1, g2⟩ := sameKeys_ok (n := n) (F := fun x y => sameKey fuel x y) (fun h hx hy => sameKey_ok (by omega) h hx hy) _ _ _ _ rx ry h0
      simp only [Instr.sameBits, Bool.and_eq_true]
      exact ⟨by simp [g1], g2⟩
    · cases h0

theorem keyStays_ok {a b : AV} {x y : Value} (h : sameKey eqFuel a b = true) (hx : VRel e a x) (hy : VRel e b y) : (Instr.keyThatStays x y).run P w = .ok y w := by
  have := sameKey_ok (show eqFuel ≤ 10000 by decide) h hx hy
  simp [Instr.keyThatStays, this]

/-- A map's block turned. -/
theorem WRel.setMap (hw : WRel P X e σ w) {b c : Nat} {es es' : List AEnt} {E' : Array MapEntry} {ck ck' : Nat} (hA : σ.get b = some (.map es ck)) (hc : e.blk b = some c) (hs : σ.slot b) (hE : EsRel e es' E'.toList) :
    WRel P X e (σ.put b (some (.map es' ck'))) { w with heap := w.heap.setIfInBounds c (.map E' ck') } :=
  hw.set (A' := .map es' ck') (o' := .map E' ck') hA hc hs ⟨E', rfl, hE⟩ rfl rfl rfl rfl

/-- An operation without a value. -/
def OkS (P : Program) (X : Fix) (e : Env) (σ : St) (K : St → Bool) (r : Result Unit) : Prop :=
  ∃ e' σ' w', r = .ok () w' ∧ Env.Le e e' ∧ WRel P X e' σ' w' ∧ K σ' = true ∧ σ'.df = σ.df

theorem mapUpdateK_ok {t : TypeId} {m k v : AV} {m' k' v' : Value} {K : St → Bool} (h : mapUpdateK P t m k v σ K = true) (hm : VRel e m m') (hk : VRel e k k') (hv : VRel e v v') (hw : WRel P X e σ w) :
    OkS P X e σ K ((Instr.mapUpdate t m' k' v').run P w) := by
  obtain ⟨q, hq, h1⟩ := optK_iff.1 h
  have hu := mapOf_ok hq
  obtain ⟨h2, h3⟩ := ifB_iff.1 h1
  obtain ⟨d, hd⟩ := keyFine_desc h2
  have hck : ∀ em, (Instr.checkKey em 10000 q.1 k').run P w = .ok () w := fun em => keyFine_ok (by decide) h2 hk
  rcases onMapBlk_ok h3 hm hw with ⟨rfl, h4⟩ | ⟨b, c, es, ck, E, rfl, rfl, hc, hA, hob, hE, h4⟩
  · cases h4
  · obtain ⟨r, r', h5, h6, h7⟩ := findK_key hd hk hw hE h4
    cases r with
    | none => cases r' with
      | some _ => exact h6.elim
      | none =>
        rw [optB_none, snocK_eq, forceN_eq] at h5
        obtain ⟨hs, hK⟩ := hSetK_iff.1 h5
        refine ⟨e, _, _, ?_, Env.Le.refl e, hw.setMap (E' := E.push { key := k', val := v', born := ck }) hA hc hs ?_, hK, rfl⟩
        · simp [Instr.mapUpdate, run_underlying hu, MapKept.run_getObj_map hob, hck, h7, MapKept.run_setObj_map _ hob]
        · rw [Array.toList_push]
          exact hE.append ⟨_, [], ⟨hk, hv, rfl⟩, rfl, rfl⟩
    | some p => cases r' with
      | none => exact h6.elim
      | some p' =>
        rw [optB_some] at h5
        obtain ⟨p1, p2⟩ := p
        obtain ⟨p1', p2'⟩ := p'
        obtain ⟨c1, _, ⟨a0, c3, c4⟩, c5⟩ := h6
        have c1 : p1 = p1' := c1
        subst c1
        obtain ⟨a, g1, g2, g3⟩ := setNthK_ok h5
        obtain ⟨hs, hK⟩ := hSetK_iff.1 g3
        obtain ⟨x, gx, gr⟩ := hE.get g1
        have gx' : E[p1]? = some x := by simpa using gx
        have hst := keyStays_ok (P := P) (w := w) g2 gr.1 hk
        refine ⟨e, _, _, ?_, Env.Le.refl e, hw.setMap (E' := E.modify p1 fun e => { e with key := k', val := v' }) hA hc hs ?_, hK, rfl⟩
        · simp [Instr.mapUpdate, run_underlying hu, MapKept.run_getObj_map hob, hck, h7, gx', hst, MapKept.run_setObj_map _ hob]
        · rw [Array.toList_modify]
          exact hE.set g1 gx ⟨hk, hv, gr.2.2⟩

theorem mapEntryK_ok {t : TypeId} {m k : AV} {m' k' : Value} {K : AV → St → Bool} (h : mapEntryK P t m k σ K = true) (hm : VRel e m m') (hk : VRel e k k') (hw : WRel P X e σ w) :
    OkV P X e σ K ((Instr.mapEntry t m' k').run P w) := by
  obtain ⟨q, hq, h1⟩ := optK_iff.1 h
  have hu := mapOf_ok hq
  obtain ⟨h2, h3⟩ := ifB_iff.1 h1
  obtain ⟨d, hd⟩ := keyFine_desc h2
  have hck : ∀ em, (Instr.checkKey em 10000 q.1 k').run P w = .ok () w := fun em => keyFine_ok (by decide) h2 hk
  rcases onMapBlk_ok h3 hm hw with ⟨rfl, h4⟩ | ⟨b, c, es, ck, E, rfl, rfl, hc, hA, hob, hE, h4⟩
  · cases h4
  · obtain ⟨r, r', h5, h6, h7⟩ := findK_key hd hk hw hE h4
    cases r with
    | none => cases r' with
      | some _ => exact h6.elim
      | none =>
        rw [optB_none] at h5
        obtain ⟨z, hz, h55⟩ := optK_iff.1 h5
        rw [snocK_eq, forceN_eq] at h55
        obtain ⟨zv, hz1, hz2⟩ := zeroV_ok (w := w) (e := e) hz
        obtain ⟨hs, hK⟩ := hSetK_iff.1 h55
        refine ⟨.tuple [z, .int .i64 (.ofNat ck)], .tuple #[zv, goInt ck], e, _, _, ?_, Env.Le.refl e, hw.setMap (E' := E.push { key := k', val := zv, born := ck }) hA hc hs ?_, ⟨[zv, goInt ck], .cons hz2 (.one rfl), rfl⟩, hK, rfl⟩
        · simp [Instr.mapEntry, run_underlying hu, MapKept.run_getObj_map hob, hck, h7, hz1, MapKept.run_setObj_map _ hob]
        · rw [Array.toList_push]
          exact hE.append ⟨_, [], ⟨hk, hz2, rfl⟩, rfl, rfl⟩
    | some p => cases r' with
      | none => exact h6.elim
      | some p' =>
        rw [optB_some] at h5
        obtain ⟨p1, p2⟩ := p
        obtain ⟨p1', p2'⟩ := p'
        obtain ⟨c1, _, ⟨a0, c3, c4⟩, c5⟩ := h6
        have c1 : p1 = p1' := c1
        subst c1
        obtain ⟨a, g1, g2, g3⟩ := setNthK_ok h5
        obtain ⟨a1, g4, g5⟩ := optK_iff.1 (show optK _ es[p1]? = true from g3)
        rw [g1] at g4; cases g4
        obtain ⟨hs, hK⟩ := hSetK_iff.1 g5
        obtain ⟨x, gx, gr⟩ := hE.get g1
        have gx' : E[p1]? = some x := by simpa using gx
        have hst := keyStays_ok (P := P) (w := w) g2 gr.1 hk
        refine ⟨.tuple [p2, .int .i64 (.ofNat a.born)], .tuple #[p2', goInt x.born], e, _, _, ?_, Env.Le.refl e, hw.setMap (E' := E.modify p1 fun e => { e with key := k' }) hA hc hs ?_, ⟨[p2', goInt x.born], .cons c5 (.one ?_), rfl⟩, hK, rfl⟩
        · simp [Instr.mapEntry, run_underlying hu, MapKept.run_getObj_map hob, hck, h7, gx', hst, MapKept.run_setObj_map _ hob]
        · rw [Array.toList_modify]
          exact hE.set g1 gx ⟨hk, gr.2.1, gr.2.2⟩
        · show _ = _
          rw [gr.2.2]; rfl

theorem dropNth_ok : ∀ {es : List AEnt} {i : Nat} {K : List AEnt → Bool}, deleteK.dropNth es i K = true → K (es.eraseIdx i) = true
  | [], _, _, h => nomatch (show false = true from h)
  | _ :: _, 0, _, h => h
  | a :: es, i + 1, K, h => dropNth_ok (es := es) (i := i) (K := fun r => K (a :: r)) h

theorem deleteK_ok {ts : Array TypeId} {t ty : TypeId} {m k : AV} {m' k' : Value} {K : AV → St → Bool} (h0 : ts[0]? = some t) (h : deleteK P t m k σ (fun σ => K (.tuple []) σ) = true) (hm : VRel e m m') (hk : VRel e k k') (hw : WRel P X e σ w) :
    OkV P X e σ K ((Builtin.delete_ ts ty #[m', k']).run P w) := by
  obtain ⟨q, hq, h1⟩ := optK_iff.1 h
  have hu := mapOf_ok hq
  obtain ⟨h2, h3⟩ := ifB_iff.1 h1
  obtain ⟨d, hd⟩ := keyFine_desc h2
  have hck : ∀ em, (Instr.checkKey em 10000 q.1 k').run P w = .ok () w := fun em => keyFine_ok (by decide) h2 hk
  rcases onMapBlk_ok h3 hm hw with ⟨rfl, h4⟩ | ⟨b, c, es, ck, E, rfl, rfl, hc, hA, hob, hE, h4⟩
  · exact ⟨.tuple [], .tuple #[], e, σ, w, by simp [Builtin.delete_, h0, run_underlying hu, hck], Env.Le.refl e, hw, ⟨[], rfl, rfl⟩, h4, rfl⟩
  · obtain ⟨r, r', h5, h6, h7⟩ := findK_key hd hk hw hE h4
    cases r with
    | none => cases r' with
      | some _ => exact h6.elim
      | none =>
        rw [optB_none] at h5
        obtain ⟨hs, hK⟩ := hSetK_iff.1 h5
        refine ⟨.tuple [], .tuple #[], e, _, _, ?_, Env.Le.refl e, hw.setMap (E' := E) hA hc hs hE, ⟨[], rfl, rfl⟩, hK, rfl⟩
        simp [Builtin.delete_, h0, run_underlying hu, MapKept.run_getObj_map hob, hck, h7, MapKept.run_setObj_map _ hob]
    | some p => cases r' with
      | none => exact h6.elim
      | some p' =>
        rw [optB_some] at h5
        obtain ⟨p1, p2⟩ := p
        obtain ⟨p1', p2'⟩ := p'
        obtain ⟨c1, _, _, c5⟩ := h6
        have c1 : p1 = p1' := c1
        subst c1
        obtain ⟨hs, hK⟩ := hSetK_iff.1 (dropNth_ok h5)
        refine ⟨.tuple [], .tuple #[], e, _, _, ?_, Env.Le.refl e, hw.setMap (E' := E.eraseIdxIfInBounds p1) hA hc hs ?_, ⟨[], rfl, rfl⟩, hK, rfl⟩
        · simp [Builtin.delete_, h0, run_underlying hu, MapKept.run_getObj_map hob, hck, h7, MapKept.run_setObj_map _ hob]
        · rw [Array.toList_eraseIdxIfInBounds]
          exact hE.erase

theorem rangeK_ok {t : TypeId} {m : AV} {m' : Value} {K : AV → St → Bool} (h : rangeK P t m σ K = true) (hm : VRel e m m') (hw : WRel P X e σ w) : OkV P X e σ K ((Instr.range t m').run P w) := by
  obtain ⟨q, hq, h1⟩ := optK_iff.1 h
  have hu := mapOf_ok hq
  have fin : ∀ {A : ABlk} {o : Obj}, (∀ e', Env.Le e e' → BRel P e' σ.nx A o) → newBlkK A σ (fun b σ => K (.ptr b 0) σ) = true → (Instr.range t m').run P w = .ok (.pointer (some ⟨w.heap.size, 0, none⟩)) { w with heap := w.heap.push o } →
      OkV P X e σ K ((Instr.range t m').run P w) := by
    intro A o hB hn hr
    obtain ⟨hs, hk⟩ := newBlkK_iff.1 hn
    obtain ⟨f1, f2, _⟩ := hw.fresh σ.nx (Nat.le_refl _)
    have hle := Env.le_bind (e := e) (c := w.heap.size) (k := none) f1 f2
    exact ⟨.ptr σ.nx 0, _, e.bind σ.nx w.heap.size none, _, _, hr, hle, hw.new (o := o) hs (nx_ge hw) rfl (hB _ hle) rfl rfl rfl, ⟨w.heap.size, Env.bind_blk .., rfl⟩, hk, rfl⟩
  rcases onMapN_iff.1 h1 with ⟨rfl, h2⟩ | ⟨mb, rfl, h2⟩
  · cases hm
    exact fin (A := .iter none 0 [] 0) (o := .mapIter none 0 #[] 0) (fun e' _ => ⟨none, rfl, rfl⟩) h2 (by simp [Instr.range, run_underlying hu])
  · obtain ⟨c, hc, rfl⟩ := hm
    obtain ⟨A, hA, h3⟩ := hGetK_iff.1 h2
    obtain ⟨es, ck, rfl, h4⟩ := onMapB_iff.1 h3
    obtain ⟨c', ob, hc', hob, ⟨E, rfl, hE⟩, _⟩ := hw.blk mb _ hA
    rw [hc] at hc'; cases hc'
    exact fin (A := .iter (some mb) ck [] ck) (o := .mapIter (some c) ck #[] ck) (fun e' hle => ⟨some c, rfl, c, hle.blk _ _ hc, rfl⟩) h4 (by simp [Instr.range, run_underlying hu, MapKept.run_getObj_map hob])
end
end Go.Ev

/- The evaluator, part 20: ranges' steps, entries, interfaces, methods. -/
namespace Go.Ev

theorem snocN_eq : ∀ {l : List Nat} {n : Nat} {K : List Nat → Bool}, nextK.snocN l n K = K (l ++ [n])
  | [], _, _ => rfl
  | x :: l, n, K => (snocN_eq (l := l) (n := n) (K := fun r => K (x :: r)))
theorem memN_iff {n : Nat} : ∀ {l : List Nat}, memN n l = true ↔ n ∈ l
  | [] => by simp [memN]
  | x :: l => by
    have h0 : memN n (x :: l) = ifB (Nat.beq n x) true (memN n l) := rfl
    rw [h0]
    cases q : Nat.beq n x with
    | true => rw [ifB_true]; simp [beq_true q]
    | false => rw [ifB_false, memN_iff]; simp [beq_false q]
theorem memN_contains {n : Nat} {l : List Nat} : memN n l = l.toArray.contains n := by
  rw [Bool.eq_iff_iff, memN_iff]
  simp

section
variable {P : Program} {X : Fix} {e : Env} {σ : St} {w : World}

theorem each_ok {r mb since clock : Nat} {seen : List Nat} {K : AV → St → Bool} : ∀ {es : List AEnt}, nextK.each σ K r mb since clock seen es = true → ∀ (i : Nat) a, es[i]? = some a → memN a.born seen = false →
    hSetK r (some (.iter (some mb) since (seen ++ [a.born]) clock)) σ (fun σ => K (.tuple [.bool true, a.key, a.val]) σ) = true
  | [], _, i, a, h, _ => by simp at h
  | b :: es, h, i, a, ha, hn => by
    have h0 : ifB (memN b.born seen) (nextK.each σ K r mb since clock seen es) (ifB (nextK.snocN seen b.born fun seen' => hSetK r (some (.iter (some mb) since seen' clock)) σ fun σ => K (.tuple [.bool true, b.key, b.val]) σ) (nextK.each σ K r mb since clock seen es) false) = true := h
    cases i with
    | zero =>
      simp at ha; subst ha
      rw [hn, ifB_false] at h0
      obtain ⟨h1, _⟩ := ifB_iff.1 h0
      rw [snocN_eq] at h1
      exact h1
    | succ i =>
      simp at ha
      cases q : memN b.born seen with
      | true => rw [q, ifB_true] at h0; exact each_ok h0 i a ha hn
      | false =>
        rw [q, ifB_false] at h0
        exact each_ok (ifB_iff.1 h0).2 i a ha hn

theorem olds_ok {since : Nat} {seen : List Nat} : ∀ {es : List AEnt},
    List.rec (motive := fun _ => Bool) true (fun e _ ih => ifB (memN e.born seen) ih (ifB (Nat.ble since e.born) ih false)) es = false → ∃ (i : Nat) (a : AEnt), es[i]? = some a ∧ memN a.born seen = false ∧ a.born < since
  | [], h => nomatch (show true = false from h)
  | b :: es, h => by
    have h0 : ifB (memN b.born seen) (List.rec (motive := fun _ => Bool) true (fun e _ ih => ifB (memN e.born seen) ih (ifB (Nat.ble since e.born) ih false)) es)
      (ifB (Nat.ble since b.born) (List.rec (motive := fun _ => Bool) true (fun e _ ih => ifB (memN e.born seen) ih (ifB (Nat.ble since e.born) ih false)) es) false) = false := h
    have go : List.rec (motive := fun _ => Bool) true (fun e _ ih => ifB (memN e.born seen) ih (ifB (Nat.ble since e.born) ih false)) es = false → ∃ (i : Nat) (a : AEnt), (b :: es)[i]? = some a ∧ memN a.born seen = false ∧ a.born < since := fun h => by
      obtain ⟨i, a, h1, h2⟩ := olds_ok (es := es) h
      exact ⟨i + 1, a, by simpa using h1, h2⟩
    cases q : memN b.born seen with
    | true => rw [q, ifB_true] at h0; exact go h0
    | false =>
      rw [q, ifB_false] at h0
      cases q2 : Nat.ble since b.born with
      | true => rw [q2, ifB_true] at h0; exact go h0
      | false => exact ⟨0, b, rfl, q, by apply Nat.lt_of_not_le; intro hh; rw [Nat.ble_eq_true_of_le hh] at q2; cases q2⟩

theorem gone_ok {last : Nat} : ∀ {es : List AEnt} {xs : List MapEntry}, EsRel e es xs → List.rec (motive := fun _ => Bool) false (fun e _ ih => ifB (Nat.ble last e.born) ih true) es = true → xs.all (fun e => decide (e.born ≥ last)) = false
  | [], _, _, h => nomatch (show false = true from h)
  | b :: es, _, ⟨x, xs, p, q, s⟩, h => by
    subst s
    have h0 : ifB (Nat.ble last b.born) (List.rec (motive := fun _ => Bool) false (fun e _ ih => ifB (Nat.ble last e.born) ih true) es) true = true := h
    cases r : Nat.ble last b.born with
    | true =>
      rw [r, ifB_true] at h0
      rw [List.all_cons, gone_ok q h0, Bool.and_false]
    | false =>
      have : ¬ last ≤ b.born := fun hh => by rw [Nat.ble_eq_true_of_le hh] at r; cases r
      rw [List.all_cons, p.2.2]
      simp [this]

theorem nextK_ok {it : AV} {x : Value} {s : Bool} {ty : TypeId} {K : AV → St → Bool} (h : nextK it s σ K = true) (hi : VRel e it x) (hw : WRel P X e σ w) : OkV P X e σ K ((Instr.next x s ty).run P w) := by
  cases s with
  | true => cases h
  | false =>
  obtain ⟨r, o, rfl, h1⟩ := onPtr_iff.1 (show onPtr it _ = true from h)
  obtain ⟨c, hc, rfl⟩ := hi
  obtain ⟨h2, h3⟩ := ifB_iff.1 h1
  have := beq_true h2
  subst this
  obtain ⟨A, hA, h4⟩ := hGetK_iff.1 h3
  obtain ⟨m, since, seen, last, rfl, h5⟩ := onIterB_iff.1 h4
  obtain ⟨c', ob, hc', hob, ⟨m', rfl, hm'⟩, _⟩ := hw.blk r _ hA
  rw [hc] at hc'; cases hc'
  have hget : (getObj c).run P w = .ok (.mapIter m' since seen.toArray last) w := by simp [getObj, Sem.run, hob]
  cases m with
  | none =>
    rw [optB_none] at h5
    have : m' = none := hm'
    subst this
    refine ⟨.tuple [.bool false], .tuple #[.bool false], e, σ, w, ?_, Env.Le.refl e, hw, ⟨[.bool false], .one rfl, rfl⟩, h5, rfl⟩
    simp [Instr.next, hget]
  | some mb =>
    rw [optB_some] at h5
    obtain ⟨d, hd, rfl⟩ := hm'
    obtain ⟨B, hB, h6⟩ := hGetK_iff.1 h5
    obtain ⟨es, clock, rfl, h7⟩ := onMapB_iff.1 h6
    obtain ⟨d', ob', hd', hob', ⟨E, rfl, hE⟩, _⟩ := hw.blk mb _ hB
    rw [hd] at hd'; cases hd'
    have hgetm := MapKept.run_getObj_map (P := P) hob'
    obtain ⟨h8, h9⟩ := ifB_iff.1 h7
    have hgone : (!seen.toArray.isEmpty && !E.isEmpty && E.all (fun e => decide (e.born ≥ last))) = false := by
      cases seen with
      | nil => simp
      | cons a l =>
        cases es with
        | nil =>
          have hE0 : E.toList = [] := hE
          have : E = #[] := by apply Array.ext'; simpa using hE0
          subst this; simp
        | cons b es =>
          have := gone_ok hE (show List.rec (motive := fun _ => Bool) false (fun e _ ih => ifB (Nat.ble last e.born) ih true) (b :: es) = true from h8)
          rw [← Array.all_toList, this, Bool.and_false]
    -- the candidates
    generalize hleft : E.filter (fun e => !seen.toArray.contains e.born) = left
    generalize hold : left.filter (fun x => decide (x.born < since)) = old
    generalize hnew : left.filter (fun x => decide (x.born ≥ since)) = new
    generalize hcand : (if old.isEmpty then #[none] else (#[] : Array (Option MapEntry))) ++ (old ++ new).map some = cand
    have hsome : ∀ (j : Nat) y, cand[j]? = some (some y) → y ∈ left := by
      intro j y hj
      have hmem := Array.mem_of_getElem? hj
      rw [← hcand] at hmem
      simp only [Array.mem_append, Array.mem_map] at hmem
      rcases hmem with hm | ⟨z, hz, hz'⟩
      · split at hm
        · simp at hm
        · simp at hm
      · cases hz'
        rcases hz with hz | hz
        · rw [← hold] at hz; exact (Array.mem_filter.1 hz).1
        · rw [← hnew] at hz; exact (Array.mem_filter.1 hz).1
    have hnone : ∀ j : Nat, cand[j]? = some none → old = #[] := by
      intro j hj
      have hmem := Array.mem_of_getElem? hj
      rw [← hcand] at hmem
      simp only [Array.mem_append, Array.mem_map] at hmem
      rcases hmem with hm | ⟨z, _, hz'⟩
      · split at hm
        · rename_i q; simpa using q
        · simp at hm
      · cases hz'
    have hpos : 0 < cand.size := by
      rw [← hcand]
      by_cases q : old.isEmpty
      · simp [q]; omega
      · have : 0 < old.size := by
          apply Nat.pos_of_ne_zero
          intro hh; exact q (by simpa using hh)
        simp [q]; omega
    have step : ∀ (j : Nat) (w1 : World), j < cand.size → w1.heap = w.heap → WRel P X e σ w1 → OkV P X e σ K ((match cand[j]? with
        | some (some e) => do
          setObj c (.mapIter (some d) since (seen.toArray.push e.born) clock)
          pure (.tuple #[.bool true, e.key, e.val])
        | some none => pure (.tuple #[.bool false])
        | none => stuck "Next: no such candidate" : Sem Value).run P w1) := by
      intro j w1 hj hh hw1
      have hob1 : w1.heap[c]? = some (.mapIter (some d) since seen.toArray last) := by rw [hh]; exact hob
      cases hcj : cand[j]? with
      | none => rw [Array.getElem?_eq_none_iff] at hcj; omega
      | some o =>
        cases o with
        | none =>
          have hold0 := hnone j hcj
          have hover : K (.tuple [.bool false]) σ = true := by
            cases q : List.rec (motive := fun _ => Bool) true (fun e _ ih => ifB (memN e.born seen) ih (ifB (Nat.ble since e.born) ih false)) es with
            | true => rw [q, ifB_true] at h9; exact (ifB_iff.1 h9).1
            | false =>
              exfalso
              obtain ⟨i, a, g1, g2, g3⟩ := olds_ok q
              obtain ⟨y, gy, gr⟩ := hE.get g1
              have hy : y ∈ old := by
                rw [← hold, Array.mem_filter, ← hleft, Array.mem_filter]
                refine ⟨⟨?_, ?_⟩, ?_⟩
                · exact Array.mem_toList_iff.1 (List.mem_of_getElem? gy)
                · rw [gr.2.2, ← memN_contains, g2]; rfl
                · rw [gr.2.2]; simpa using g3
              rw [hold0] at hy; simp at hy
          exact ⟨.tuple [.bool false], .tuple #[.bool false], e, σ, w1, rfl, Env.Le.refl e, hw1, ⟨[.bool false], .one rfl, rfl⟩, hover, rfl⟩
        | some y =>
          have hy := hsome j y hcj
          rw [← hleft, Array.mem_filter] at hy
          obtain ⟨hyE, hys⟩ := hy
          obtain ⟨i, hi⟩ := List.mem_iff_getElem?.1 (Array.mem_toList_iff.2 hyE)
          obtain ⟨a, ga, gr⟩ := hE.of_get hi
          have hmem : memN a.born seen = false := by
            rw [memN_contains, ← gr.2.2]; simpa using hys
          have heach : nextK.each σ K r mb since clock seen es = true := by
            cases q : List.rec (motive := fun _ => Bool) true (fun e _ ih => ifB (memN e.born seen) ih (ifB (Nat.ble since e.born) ih false)) es with
            | true => rw [q, ifB_true] at h9; exact (ifB_iff.1 h9).2
            | false => rw [q, ifB_false] at h9; exact h9
          obtain ⟨hs, hK⟩ := hSetK_iff.1 (each_ok heach i a ga hmem)
          refine ⟨.tuple [.bool true, a.key, a.val], .tuple #[.bool true, y.key, y.val], e, _, { w1 with heap := w1.heap.setIfInBounds c (.mapIter (some d) since (seen.toArray.push y.born) clock) }, ?_, Env.Le.refl e,
            hw1.set (A' := .iter (some mb) since (seen ++ [a.born]) clock) hA hc hs ⟨some d, ?_, d, hd, rfl⟩ rfl rfl rfl rfl, ⟨[.bool true, y.key, y.val], .cons rfl (.cons gr.1 (.one gr.2.1)), rfl⟩, hK, rfl⟩
          · simp [setObj, Sem.run, hob1]
          · rw [gr.2.2]; simp
    have hrun : (Instr.next (.pointer (some ⟨c, 0, none⟩)) false ty).run P w = ((choose (.mapNext cand.size)).run P w).andThen fun j w1 => (match cand[j]? with
        | some (some e) => do
          setObj c (.mapIter (some d) since (seen.toArray.push e.born) clock)
          pure (.tuple #[.bool true, e.key, e.val])
        | some none => pure (.tuple #[.bool false])
        | none => stuck "Next: no such candidate" : Sem Value).run P w1 := by
      have hgone' := hgone
      simp only [Instr.next, Sem.run_bind, hget, Result.andThen_ok, hgetm, hgone', Bool.false_eq_true, if_false, hleft, hold, hnew, hcand]
      rfl
    rw [hrun, run_choose]
    split
    · exact step 0 w hpos rfl hw
    · rename_i hf
      have : (Question.mapNext cand.size).cut (w.tape w.drawn (.mapNext cand.size)) < cand.size := Nat.mod_lt _ hpos
      exact step _ _ this rfl (hw.drawn _)
end
end Go.Ev

/- The evaluator, part 21: entries, interfaces, methods. -/
namespace Go.Ev
section
variable {P : Program} {X : Fix} {e : Env} {σ : St} {w : World}

theorem lastN_ok : ∀ {l : List Nat} {K : Nat → Bool}, entryK.lastN l K = true → ∃ x, l.toArray.back? = some x ∧ K x = true
  | [], _, h => nomatch (show false = true from h)
  | [x], K, h => ⟨x, by simp, h⟩
  | x :: y :: l, K, h => by
    obtain ⟨z, h1, h2⟩ := lastN_ok (l := y :: l) (K := K) h
    exact ⟨z, by simpa using h1, h2⟩

theorem entryK_ok {it : AV} {x : Value} {K : AV → Bool} (h : entryK it σ K = true) (hi : VRel e it x) (hw : WRel P X e σ w) :
    ∃ u z, K u = true ∧ VRel e u z ∧ (Instr.entry x).run P w = .ok z w := by
  obtain ⟨r, o, rfl, h1⟩ := onPtr_iff.1 h
  obtain ⟨c, hc, rfl⟩ := hi
  obtain ⟨h2, h3⟩ := ifB_iff.1 h1
  have := beq_true h2
  subst this
  obtain ⟨A, hA, h4⟩ := hGetK_iff.1 h3
  obtain ⟨m, since, seen, last, rfl, h5⟩ := onIterB_iff.1 h4
  obtain ⟨c', ob, hc', hob, ⟨m', rfl, hm'⟩, _⟩ := hw.blk r _ hA
  rw [hc] at hc'; cases hc'
  have hget : (getObj c).run P w = .ok (.mapIter m' since seen.toArray last) w := by simp [getObj, Sem.run, hob]
  obtain ⟨mb, rfl, h6⟩ := optK_iff.1 h5
  obtain ⟨d, hd, rfl⟩ := hm'
  obtain ⟨stamp, h7, h8⟩ := lastN_ok h6
  obtain ⟨B, hB, h9⟩ := hGetK_iff.1 h8
  obtain ⟨es, clock, rfl, h10⟩ := onMapB_iff.1 h9
  obtain ⟨d', ob', hd', hob', ⟨E, rfl, hE⟩, _⟩ := hw.blk mb _ hB
  rw [hd] at hd'; cases hd'
  have hgetm := MapKept.run_getObj_map (P := P) hob'
  obtain ⟨h11, h12⟩ := ifB_iff.1 h10
  have := beq_true h11
  subst this
  have go : ∀ (es : List AEnt) (xs : List MapEntry), EsRel e es xs → List.rec (motive := fun _ => Unit → Bool) (fun _ => false) (fun e _ ih _ => ifB (Nat.beq e.born stamp) (K (.tuple [e.key, e.val])) (ih ())) es () = true →
      ∃ a y, xs.find? (fun x => x.born == stamp) = some y ∧ EntRel e a y ∧ K (.tuple [a.key, a.val]) = true := by
    intro es
    induction es with
    | nil => intro xs _ h; cases h
    | cons b es ih =>
      intro xs hE h
      obtain ⟨y, ys, p, q, rfl⟩ := hE
      have h0 : ifB (Nat.beq b.born stamp) (K (.tuple [b.key, b.val])) (List.rec (motive := fun _ => Unit → Bool) (fun _ => false) (fun e _ ih _ => ifB (Nat.beq e.born stamp) (K (.tuple [e.key, e.val])) (ih ())) es ()) = true := h
      cases g : Nat.beq b.born stamp with
      | true =>
        rw [g, ifB_true] at h0
        refine ⟨b, y, ?_, p, h0⟩
        rw [List.find?_cons_of_pos]
        rw [p.2.2, beq_true g]; simp
      | false =>
        rw [g, ifB_false] at h0
        obtain ⟨a, z, g1, g2, g3⟩ := ih ys q h0
        refine ⟨a, z, ?_, g2, g3⟩
        rw [List.find?_cons_of_neg]
        · exact g1
        · rw [p.2.2]; simpa using beq_false g
  obtain ⟨a, y, g1, g2, g3⟩ := go es E.toList hE h12
  refine ⟨_, .tuple #[y.key, y.val], g3, ⟨[y.key, y.val], .cons g2.1 (.one g2.2.1), rfl⟩, ?_⟩
  have g1' : E.find? (fun x => x.born == stamp) = some y := by rw [← Array.find?_toList]; exact g1
  simp only [Instr.entry, Sem.run_bind, hget, Result.andThen_ok, h7, hgetm, g1']
  simp

theorem entryStoreK_ok {t : TypeId} {m s v : AV} {m' s' v' : Value} {K : St → Bool} (h : entryStoreK m s v σ K = true) (hm : VRel e m m') (hs : VRel e s s') (hv : VRel e v v') (hw : WRel P X e σ w) :
    OkS P X e σ K ((Instr.entryStore t m' s' v').run P w) := by
  rcases onMapBlk_ok h hm hw with ⟨rfl, h4⟩ | ⟨b, c, es, ck, E, rfl, rfl, hc, hA, hob, hE, h4⟩
  · cases h4
  · obtain ⟨k, bn, rfl, h5⟩ := natK_ok h4 hs
    have go : ∀ (es : List AEnt) (xs : List MapEntry) (K : List AEnt → Bool), EsRel e es xs →
        List.rec (motive := fun _ => (List AEnt → Bool) → Bool) (fun _ => false) (fun e r ih K => ifB (Nat.beq e.born bn) (K (⟨e.key, v, e.born⟩ :: r)) (ih fun r' => K (e :: r'))) es K = true →
        ∃ i es', xs.findIdx? (fun x => (x.born : Int) == (bn : Int)) = some i ∧ EsRel e es' (xs.modify i fun x => { x with val := v' }) ∧ K es' = true := by
      intro es
      induction es with
      | nil => intro xs K _ h; cases h
      | cons b es ih =>
        intro xs K hE h
        obtain ⟨y, ys, p, q, rfl⟩ := hE
        have h0 : ifB (Nat.beq b.born bn) (K (⟨b.key, v, b.born⟩ :: es)) (List.rec (motive := fun _ => (List AEnt → Bool) → Bool) (fun _ => false) (fun e r ih K => ifB (Nat.beq e.born bn) (K (⟨e.key, v, e.born⟩ :: r)) (ih fun r' => K (e :: r'))) es fun r' => K (b :: r')) = true := h
        cases g : Nat.beq b.born bn with
        | true =>
          rw [g, ifB_true] at h0
          have : y.born = bn := by rw [p.2.2, beq_true g]
          exact ⟨0, ⟨b.key, v, b.born⟩ :: es, by simp [List.findIdx?_cons, this], ⟨{ y with val := v' }, ys, ⟨p.1, hv, p.2.2⟩, q, by simp⟩, h0⟩
        | false =>
          rw [g, ifB_false] at h0
          obtain ⟨i, es', g1, g2, g3⟩ := ih ys (fun r' => K (b :: r')) q h0
          have hne : ¬ y.born = bn := by rw [p.2.2]; exact beq_false g
          have hne' : ¬ (y.born : Int) = (bn : Int) := by omega
          refine ⟨i + 1, b :: es', ?_, ⟨y, _, p, g2, by simp⟩, g3⟩
          simp [List.findIdx?_cons, g1, hne']
    obtain ⟨i, es', g1, g2, g3⟩ := go es E.toList _ hE h5
    obtain ⟨hsl, hK⟩ := hSetK_iff.1 g3
    have g1' : E.findIdx? (fun x => (x.born : Int) == (bn : Int)) = some i := by
      have e1 : E = E.toList.toArray := by simp
      rw [e1, List.findIdx?_toArray]; exact g1
    refine ⟨e, _, _, ?_, Env.Le.refl e, hw.setMap (E' := E.modify i fun x => { x with val := v' }) hA hc hsl (by rw [Array.toList_modify]; exact g2), hK, rfl⟩
    simp [Instr.entryStore, MapKept.run_getObj_map hob, asInt, asIntOf, g1', MapKept.run_setObj_map _ hob]

theorem typeAssertK_ok {v : AV} {x : Value} {xt asserted : TypeId} {ok : Bool} {K : AV → Bool} (h : typeAssertK P v asserted ok K = true) (hv : VRel e v x) :
    ∃ u z, K u = true ∧ VRel e u z ∧ (Instr.typeAssert x xt asserted ok).run P w = .ok z w := by
  obtain ⟨q, hq, h1⟩ := optK_iff.1 h
  have hholds : ∀ {a : AV} {y : Value}, typeAssertK.holds ok K a = true → VRel e a y → ∃ u z, K u = true ∧ VRel e u z ∧ (pure (if ok then .tuple #[y, .bool true] else y) : Sem Value).run P w = .ok z w := by
    intro a y h hy
    cases ok with
    | true => exact ⟨_, .tuple #[y, .bool true], h, ⟨[y, .bool true], .cons hy (.one rfl), rfl⟩, rfl⟩
    | false => exact ⟨_, y, h, hy, rfl⟩
  have hfails : ∀ {A B : Option TypeId} {s : String}, typeAssertK.fails P asserted ok K = true → ∃ u z, K u = true ∧ VRel e u z ∧ (if ok then do pure (.tuple #[← zeroValue asserted, .bool false]) else runtimePanic (.typeAssertion A B asserted s) : Sem Value).run P w = .ok z w := by
    intro A B s h
    cases ok with
    | true =>
      obtain ⟨z, hz, h2⟩ := optK_iff.1 (show optK _ (zeroV P asserted) = true from h)
      obtain ⟨zv, hz1, hz2⟩ := zeroV_ok (w := w) (e := e) hz
      exact ⟨_, .tuple #[zv, .bool false], h2, ⟨[zv, .bool false], .cons hz2 (.one rfl), rfl⟩, by simp [hz1]⟩
    | false => cases h
  unfold assertKind at hq
  split at hq
  · rename_i want hu
    cases hq
    rcases onIfaceN_iff.1 h1 with ⟨rfl, h2⟩ | ⟨t, u, rfl, h2⟩
    · cases hv
      obtain ⟨a, z, g1, g2, g3⟩ := hfails (A := none) (B := none) (s := "") h2
      exact ⟨a, z, g1, g2, by simp only [Instr.typeAssert, Sem.run_bind, run_underlying hu, Result.andThen_ok]; exact g3⟩
    · have hv0 := hv
      obtain ⟨y, hy, rfl⟩ := hv
      obtain ⟨b, hb, h3⟩ := optK_iff.1 (show optK (fun b => ifB b (typeAssertK.holds ok K (.iface t u)) (typeAssertK.fails P asserted ok K)) (hasAll P want t) = true from h2)
      unfold hasAll at hb
      split at hb
      · rename_i i hi
        have hb' := Option.some.inj hb
        cases hm : Instr.missingMethod want i.methods with
        | none =>
          rw [hm] at hb'
          rw [← hb'] at h3
          obtain ⟨a, z, g1, g2, g3⟩ := hholds (show typeAssertK.holds ok K (.iface t u) = true from h3) hv0
          exact ⟨a, z, g1, g2, by simp only [Instr.typeAssert, Sem.run_bind, run_underlying hu, Result.andThen_ok, run_typeInfo w hi, hm]; exact g3⟩
        | some s =>
          rw [hm] at hb'
          rw [← hb'] at h3
          obtain ⟨a, z, g1, g2, g3⟩ := hfails (A := none) (B := some t) (s := s) (show typeAssertK.fails P asserted ok K = true from h3)
          exact ⟨a, z, g1, g2, by simp only [Instr.typeAssert, Sem.run_bind, run_underlying hu, Result.andThen_ok, run_typeInfo w hi, hm]; exact g3⟩
      · cases hb
  · rename_i d hn hu
    cases hq
    rcases onIfaceN_iff.1 h1 with ⟨rfl, h2⟩ | ⟨t, u, rfl, h2⟩
    · cases hv
      obtain ⟨a, z, g1, g2, g3⟩ := hfails (A := some xt) (B := none) (s := "") h2
      refine ⟨a, z, g1, g2, ?_⟩
      simp only [Instr.typeAssert, Sem.run_bind, run_underlying hu, Result.andThen_ok]
      cases d <;> first | exact g3 | exact absurd rfl (hn _) | exact absurd hu (hn _)
    · obtain ⟨y, hy, rfl⟩ := hv
      have h3 : ifB (Nat.beq t asserted) (typeAssertK.holds ok K u) (typeAssertK.fails P asserted ok K) = true := h2
      cases hb : Nat.beq t asserted with
      | true =>
        rw [hb, ifB_true] at h3
        have ht := beq_true hb
        obtain ⟨a, z, g1, g2, g3⟩ := hholds h3 hy
        refine ⟨a, z, g1, g2, ?_⟩
        simp only [Instr.typeAssert, Sem.run_bind, run_underlying hu, Result.andThen_ok]
        cases d <;> first | (simp only [ht, if_true]; exact g3) | exact absurd rfl (hn _) | exact absurd hu (hn _)
      | false =>
        rw [hb, ifB_false] at h3
        have ht := beq_false hb
        obtain ⟨a, z, g1, g2, g3⟩ := hfails (A := some xt) (B := some t) (s := "") h3
        refine ⟨a, z, g1, g2, ?_⟩
        simp only [Instr.typeAssert, Sem.run_bind, run_underlying hu, Result.andThen_ok]
        cases d <;> first | (simp only [ht, if_false]; exact g3) | exact absurd rfl (hn _) | exact absurd hu (hn _)
  · cases hq

theorem makeInterfaceK_ok {t : TypeId} {v : AV} {x : Value} {K : AV → Bool} (h : makeInterfaceK P t v K = true) (hv : VRel e v x) :
    ∃ u z, K u = true ∧ VRel e u z ∧ (Instr.makeInterface t x).run P w = .ok z w := by
  obtain ⟨b, hb, h1⟩ := optK_iff.1 h
  cases b with
  | true => cases h1
  | false =>
    refine ⟨_, .iface t x, h1, ⟨x, hv, rfl⟩, ?_⟩
    unfold isIfaceT at hb
    split at hb
    · cases hb
    · rename_i d hn hu
      simp only [Instr.makeInterface, Sem.run_bind, run_underlying hu, Result.andThen_ok]
      cases d <;> first | rfl | exact absurd rfl (hn _) | exact absurd hu (hn _)
    · cases hb

theorem s2apK_ok {arr : TypeId} {v : AV} {x : Value} {K : AV → Bool} (h : s2apK P arr v K = true) (hv : VRel e v x) :
    ∃ u z, K u = true ∧ VRel e u z ∧ (Instr.arrayAt arr x).run P w = .ok z w := by
  obtain ⟨q, hq, h1⟩ := optK_iff.1 h
  obtain ⟨i, hu, _, _⟩ := arrayOf_ok hq
  obtain ⟨b, o, l, c, rfl, h2⟩ := onSlice_iff.1 h1
  obtain ⟨a, cp, hb, hle, hc, rfl⟩ := hv
  obtain ⟨h3, h4⟩ := ifB_iff.1 h2
  have : ¬ l < q.1 := by have := Nat.le_of_ble_eq_true h3; omega
  exact ⟨_, .pointer (some ⟨a, o, none⟩), h4, ⟨a, hb, rfl⟩, by simp [Instr.arrayAt, run_underlying hu, this]⟩

theorem waitsK_ok {g : Nat} {K : AV → Bool} (h : waitsK g σ K = true) (hw : WRel P X e σ w) : ∃ u z, K u = true ∧ VRel e u z ∧ (Instr.waits g).run P w = .ok z w := by
  obtain ⟨h1, h2⟩ := ifB_iff.1 h
  have hg : g < 64 := Nat.le_of_ble_eq_true h1
  obtain ⟨A, hA, h3⟩ := hGetK_iff.1 h2
  obtain ⟨cs, n, el, op, fz, st, rfl, h4⟩ := onCells_iff.1 h3
  obtain ⟨c', ob, hc', hob, ⟨C, lo, hi, rfl, hrel⟩, _⟩ := hw.blk g _ hA
  rw [hw.glob g hg] at hc'; cases hc'
  exact ⟨_, .bool false, h4, rfl, by simp [Instr.waits, shape?_of hob]⟩

theorem wrapChk (ts : Array TypeId) (t : TypeId) (a : Addr) (s m : ByteArray) : Builtin.ssaWrapNilChk_ ts t #[.pointer (some a), .string s, .string m] = pure (.pointer (some a)) := rfl

theorem methodK_ok {t : TypeId} {u : AV} {y : Value} {name : String} {fuel : Nat} {K : FuncId → AV → Bool} (h : methodK P t u name σ K = true) (hu : VRel e u y) (hw : WRel P X e σ w) :
    ∃ f r z, K f r = true ∧ VRel e r z ∧ (method (fuel + 1) t y name).run P w = .ok (f, z) w := by
  obtain ⟨q, hq, h1⟩ := optK_iff.1 h
  unfold methodOf at hq
  split at hq
  · rename_i i hi
    split at hq
    · rename_i m hm
      split at hq
      · rename_i f ptr hp hf
        split at hq
        · rename_i el hd
          split at hq
          · rename_i hptr
            cases hq
            rw [optB_none] at h1
            refine ⟨f, u, y, h1, hu, ?_⟩
            simp [method, run_typeInfo w hi, hm, hp, hf, follow, receiverAt, run_underlying hd, hptr, Place.get]
          · rename_i hptr
            have hptr' : ptr = false := by simpa using hptr
            cases hq
            rw [optB_some] at h1
            obtain ⟨v, z, h2, h3, _, h4⟩ := loadK_ok h1 hu hw
            obtain ⟨b, o, rfl, _⟩ := onPtr_iff.1 (show onPtr u _ = true from h1)
            obtain ⟨a, hb, rfl⟩ := hu
            have h5 := h4 _ rfl
            have hpe : m.path = #[] := by apply Array.ext'; simpa using hp
            refine ⟨f, v, z, h2, h3, ?_⟩
            simp [method, run_typeInfo w hi, hm, hp, hf, follow, receiverAt, run_underlying hd, hptr', Place.get, hpe, wrapChk, strVal, asAddr, h5]
        · rename_i d hn hd
          split at hq
          · cases hq
          · rename_i hptr
            have hptr' : ptr = false := by simpa using hptr
            cases hq
            rw [optB_none] at h1
            refine ⟨f, u, y, h1, hu, ?_⟩
            have : (receiverAt t (.val y) false (if m.path.isEmpty then some ((name.splitOn ".").getLastD name) else none)).run P w = .ok y w := by
              simp only [receiverAt, Sem.run_bind, run_underlying hd, Result.andThen_ok]
              cases d <;> first | rfl | exact absurd rfl (hn _) | exact absurd hd (hn _)
            simp only [method, Sem.run_bind, run_typeInfo w hi, Result.andThen_ok, hm, hp, follow, Sem.run_pure, hf, hptr', this]
        · cases hq
      · cases hq
    · cases hq
  · cases hq
end
end Go.Ev

/- The evaluator, part 22: what a wanted operation gives; the operations without calls. -/
namespace Go.Ev
section
variable {P : Program} {X : Fix} {e : Env} {σ : St} {w : World}

/-- A panic that answers to the evaluator's. -/
def Pan (P : Program) (X : Fix) (e : Env) (df : List ADef) (c : List PanicEntry) (w' : World) : Prop :=
  ∃ v x e' σ', Env.Le e e' ∧ WRel P X e' σ' w' ∧ VRel e' v x ∧ c = [{ v := x, recovered := false }] ∧ X.pan v σ' = true ∧ σ'.df = df
theorem Pan.none {P : Program} {X : Fix} {e : Env} {df : List ADef} {c : List PanicEntry} {w' : World} (h : Pan P (X.on fun _ _ => false) e df c w') : False := by
  obtain ⟨_, _, _, _, _, _, _, _, h, _⟩ := h
  cases h
/-- What a call gives. -/
def Ret (P : Program) (X : Fix) (e : Env) (σ : St) (K : AV → St → Bool) : Ending → World → Prop
  | .returned y, w' => ∃ v e' σ', Env.Le e e' ∧ WRel P X e' σ' w' ∧ VRel e' v y ∧ K v σ' = true ∧ σ'.df = σ.df
  | .panicked c, w' => Pan P X e σ.df c w'
  | _, _ => False

/-- What an operation gives. -/
def OpOk (P : Program) (X : Fix) (e : Env) (σ : St) (K : AV → St → Bool) : Result Next → Prop
  | .ok (.value y) w' => ∃ v e' σ', Env.Le e e' ∧ WRel P X e' σ' w' ∧ VRel e' v y ∧ K v σ' = true ∧ σ'.df = σ.df
  | .ok .skip w' => ∃ e' σ', Env.Le e e' ∧ WRel P X e' σ' w' ∧ K .undef σ' = true ∧ σ'.df = σ.df
  | .ok (.defer d) w' => w' = w' ∧ ∃ x σ', WRel P X e σ' w' ∧ K .undef σ' = true ∧ σ'.df = x :: σ.df ∧ DRel e [x] [d]
  | .ok (.enter f args) w' => Calls P f args w' (Ret P X e σ K)
  | .ok (.round l f tmps assign body) w' => RoundIn Fence.wide 0 P l f tmps assign body w' (Ret P X e σ K)
  | .halt (.panic x) w' => Pan P X e σ.df [{ v := x, recovered := false }] w'
  | _ => False

theorem OpOk.value {s : Sem Value} {K : AV → St → Bool} (h : OkV P X e σ K (s.run P w)) : OpOk P X e σ K ((do pure (.value (← s)) : Sem Next).run P w) := by
  obtain ⟨v, y, e', σ', w', h1, h2⟩ := h
  simp only [Sem.run_bind, h1, Result.andThen_ok, Sem.run_pure]
  exact ⟨v, e', σ', h2⟩
theorem OpOk.plain {s : Sem Value} {K : AV → Bool} {K' : AV → St → Bool} (hw : WRel P X e σ w) (hk : ∀ v, K v = true → K' v σ = true) (h : ∃ u z, K u = true ∧ VRel e u z ∧ s.run P w = .ok z w) :
    OpOk P X e σ K' ((do pure (.value (← s)) : Sem Next).run P w) := by
  obtain ⟨u, z, h1, h2, h3⟩ := h
  exact OpOk.value ⟨u, z, e, σ, w, h3, Env.Le.refl e, hw, h2, hk u h1, rfl⟩
theorem OpOk.skip {s : Sem Unit} {K : AV → St → Bool} (h : OkS P X e σ (fun σ => K .undef σ) (s.run P w)) : OpOk P X e σ K ((do s; pure .skip : Sem Next).run P w) := by
  obtain ⟨e', σ', w', h1, h2⟩ := h
  simp only [Sem.run_bind, h1, Result.andThen_ok, Sem.run_pure]
  exact ⟨e', σ', h2⟩

/-- An operation that makes a block, laid at once. -/
theorem OpOk.new {s : Sem Value} {A : ABlk} {f : Nat → AV} {K : AV → St → Bool} (hw : WRel P X e σ w) (h : NewOk P e w A f (s.run P w)) (hn : newBlkK A σ (fun b σ => K (f b) σ) = true) : OkV P X e σ K (s.run P w) := by
  obtain ⟨o, x, hr, hB, hV⟩ := h
  obtain ⟨hs, hk⟩ := newBlkK_iff.1 hn
  obtain ⟨f1, f2, _⟩ := hw.fresh σ.nx (Nat.le_refl _)
  have hle := Env.le_bind (e := e) (c := w.heap.size) (k := none) f1 f2
  exact ⟨f σ.nx, x, e.bind σ.nx w.heap.size none, _, _, hr, hle, hw.new (o := o) hs (nx_ge hw) rfl (hB _ _ hle) rfl rfl rfl, hV _ _ hle (Env.bind_blk ..), hk, rfl⟩

theorem methodOf_ok {t : TypeId} {name : String} {q : FuncId × Option TypeId} (h : methodOf P t name = some q) : ∃ i m ptr d, P.info? t = some i ∧ i.methods.find? (·.name == name) = some m ∧ m.path.toList = [] ∧ m.func = some (q.1, ptr) ∧
    P.underlying t = some d ∧ ((∃ el, d = .pointer el ∧ ((ptr = true ∧ q.2 = none) ∨ (ptr = false ∧ q.2 = some el))) ∨ ((∀ el, d ≠ .pointer el) ∧ ptr = false ∧ q.2 = none)) := by
  unfold methodOf at h
  split at h
  · rename_i i hi
    split at h
    · rename_i m hm
      split at h
      · rename_i f ptr hp hf
        split at h
        · rename_i el hd
          split at h
          · rename_i hptr; cases h; exact ⟨i, m, ptr, _, hi, hm, hp, hf, hd, .inl ⟨el, rfl, .inl ⟨hptr, rfl⟩⟩⟩
          · rename_i hptr; cases h; exact ⟨i, m, ptr, _, hi, hm, hp, hf, hd, .inl ⟨el, rfl, .inr ⟨by simpa using hptr, rfl⟩⟩⟩
        · rename_i d hn hd
          split at h
          · cases h
          · rename_i hptr; cases h; exact ⟨i, m, ptr, d, hi, hm, hp, hf, hd, .inr ⟨fun el hh => by subst hh; exact hn el (by first | rfl | exact hd), by simpa using hptr, rfl⟩⟩
        · cases h
      · cases h
    · cases h
  · cases h

theorem nilAhead_ok {t : TypeId} {u : AV} {y : Value} {name : String} {fuel : Nat} {q : FuncId × Option TypeId} (hq : methodOf P t name = some q) (hu : VRel e u y) (hp : q.2 ≠ none → ∃ b o, u = .ptr b o) :
    (nilAhead (fuel + 1) t y name).run P w = .ok (some false) w := by
  obtain ⟨i, m, ptr, d, hi, hm, hpath, hf, hd, hcase⟩ := methodOf_ok hq
  rcases hcase with ⟨el, rfl, (⟨rfl, h2⟩ | ⟨rfl, h2⟩)⟩ | ⟨hn, rfl, h2⟩
  · simp [nilAhead, run_typeInfo w hi, hm, hpath, followBlind, hf]
  · obtain ⟨b, o, rfl⟩ := hp (by rw [h2]; simp)
    obtain ⟨a, hb, rfl⟩ := hu
    simp [nilAhead, run_typeInfo w hi, hm, hpath, followBlind, hf, run_underlying hd]
  · simp only [nilAhead, Sem.run_bind, run_typeInfo w hi, Result.andThen_ok, hm, hpath, followBlind, Sem.run_pure, hf, run_underlying hd]
    cases d <;> first | rfl | exact absurd rfl (hn _)

/-- The check that the model does at 'nilCheck'. -/
def nilCheckSem (x : Value) : Sem Next := execOp (fun _ => x) { (default : Oper) with op := .nilCheck (.const x) }
theorem nilCheckK_ok {v : AV} {x : Value} {K : AV → Bool} {K' : AV → St → Bool} (h : nilCheckK P v K = true) (hv : VRel e v x) (hw : WRel P X e σ w) (hk : ∀ v, K v = true → K' v σ = true) :
    OpOk P X e σ K' ((nilCheckSem x).run P w) := by
  have fin : ∀ {v : AV} {x : Value}, K v = true → VRel e v x → OpOk P X e σ K' (.ok (.value x) w) := fun {v x} h hv => ⟨v, e, σ, Env.Le.refl e, hw, hv, hk _ h, rfl⟩
  cases v with
  | func f first c =>
    have hv0 := hv
    obtain ⟨fs, cs, rf, rc, fn', hfn, rfl⟩ := hv
    cases f with
    | func g => cases hfn; exact fin (show K (.func (.func g) first c) = true from h) hv0
    | method name =>
      cases hfn
      cases first with
      | nil => exact nomatch (show false = true from h)
      | cons r rest =>
        obtain ⟨t, u, rfl, h1⟩ := onIface_iff.1 (show onIface r _ = true from h)
        obtain ⟨q, hq, h2⟩ := optK_iff.1 h1
        obtain ⟨z, zs, rz, rzs, rfl⟩ := rf
        have hz := rz
        obtain ⟨y, hy, rfl⟩ := rz
        have hK : K (.func (.method name) (.iface t u :: rest) c) = true ∧ (q.2 ≠ none → ∃ b o, u = .ptr b o) := by
          cases hq2 : q.2 with
          | none => rw [hq2, optB_none] at h2; exact ⟨h2, fun hh => absurd rfl hh⟩
          | some el =>
            rw [hq2, optB_some] at h2
            obtain ⟨b, o, rfl, h3⟩ := onPtr_iff.1 h2
            exact ⟨h3, fun _ => ⟨b, o, rfl⟩⟩
        have hna : (nilAhead (P.types.size + Made.depth) t y name).run P w = .ok (some false) w := nilAhead_ok (fuel := P.types.size + 99) hq hy hK.2
        have : (nilCheckSem (.func (.method name) (Value.iface t y :: zs).toArray cs.toArray)).run P w = .ok (.value (.func (.method name) (Value.iface t y :: zs).toArray cs.toArray)) w := by
          simp [nilCheckSem, execOp, hna]
        rw [this]
        exact fin hK.1 hv0
    | _ => exact nomatch (show false = true from h)
  | iface t u => have hv0 := hv; obtain ⟨y, hy, rfl⟩ := hv; exact fin (show K (.iface t u) = true from h) hv0
  | ptr b o => have hv0 := hv; obtain ⟨a, hb, rfl⟩ := hv; exact fin (show K (.ptr b o) = true from h) hv0
  | _ => exact nomatch (show false = true from h)
end
end Go.Ev

/- The evaluator, part 23: calls. -/
namespace Go.Ev
section
variable {P : Program} {X : Fix} {e : Env} {σ : St} {w : World}

theorem fnB_iff {fn : Fn} {K : FuncId → Bool} : fnB fn false K = true ↔ ∃ f, fn = .func f ∧ K f = true := by
  refine ⟨fun h => ?_, fun ⟨_, e, h⟩ => e ▸ h⟩
  cases fn <;> first | exact ⟨_, rfl, h⟩ | exact nomatch (show false = true from h)

/-- A handler of calls that answers to the model. -/
structure CallHOk (P : Program) (X : Fix) (H : CallH) : Prop where
  run : ∀ {e : Env} {σ : St} {w : World} {f : FuncId} {args : List AV} {xs : List Value} {K : AV → St → Bool}, H.run f args σ K = true → LRel e args xs → WRel P X e σ w → OpOk P X e σ K ((callFunc f xs.toArray).run P w)
  yld : ∀ {e : Env} {σ : St} {w : World} {b l : Nat} {args : List AV} {xs : List Value} {K : AV → St → Bool}, H.yld b args σ K = true → e.blk b = some l → LRel e args xs → WRel P X e σ w → OpOk P X e σ K ((Instr.yield l xs.toArray).run P w)
  orc : ∀ {e : Env} {σ : St} {w : World} {fr : Fr} {a : Act} {o : Oper} {v : AV}, H.orc o.op fr = some v → (∀ x ∈ o.op.operands, OOk e fr a x) → WRel P X e σ w → ∃ x, (execOp a.eval o).run P w = .ok (.value x) w ∧ VRel e v x
  pan : H.pan = X.pan

theorem methodCallK_ok {H : CallH} (hH : CallHOk P X H) {recv : AV} {x : Value} {name : String} {args : List AV} {xs : List Value} {K : AV → St → Bool} (h : methodCallK P H recv name args σ K = true) (hr : VRel e recv x) (ha : LRel e args xs) (hw : WRel P X e σ w) :
    OpOk P X e σ K ((callMethod x name xs.toArray).run P w) := by
  obtain ⟨t, u, rfl, h1⟩ := onIface_iff.1 h
  obtain ⟨y, hy, rfl⟩ := hr
  obtain ⟨f, r, z, h2, h3, h4⟩ := methodK_ok (fuel := P.types.size + 99) h1 hy hw
  have h5 := hH.run h2 (LRel.cons h3 ha) hw
  have h4' : (method (P.types.size + Made.depth) t y name).run P w = .ok (f, z) w := h4
  have e1 : #[z] ++ xs.toArray = (z :: xs).toArray := by simp
  simp only [callMethod, Sem.run_bind, run_program, Result.andThen_ok, h4', e1]
  exact h5

theorem invokeK_ok {H : CallH} (hH : CallHOk P X H) {fn g : Fn} (hg : GRel e fn g) {cap args : List AV} {cs xs : List Value} {K : AV → St → Bool} (h : invokeK P H fn cap args σ K = true) (hc : LRel e cap cs) (ha : LRel e args xs) (hw : WRel P X e σ w) :
    OpOk P X e σ K ((invoke (.fn g cs.toArray) xs.toArray).run P w) := by
  cases fn with
  | func f =>
    cases hg
    have h0 : appK args cap (fun as => H.run f as σ K) = true := h
    rw [appK_eq] at h0
    have h1 := hH.run h0 (ha.append hc) hw
    have e1 : xs.toArray ++ cs.toArray = (xs ++ cs).toArray := by simp
    show OpOk P X e σ K ((callFunc f (xs.toArray ++ cs.toArray)).run P w)
    rw [e1]; exact h1
  | method name =>
    cases hg
    cases args with
    | nil => exact nomatch (show false = true from h)
    | cons r rest =>
      obtain ⟨x, ys, hr, hys, rfl⟩ := ha
      have h1 := methodCallK_ok hH (show methodCallK P H r name rest σ K = true from h) hr hys hw
      have e1 : (x :: ys).toArray.extract 1 (x :: ys).toArray.size = ys.toArray := by simp
      have e2 : (x :: ys).toArray[0]? = some x := by simp
      show OpOk P X e σ K ((match (x :: ys).toArray[0]? with | some recv => callMethod recv name ((x :: ys).toArray.extract 1 (x :: ys).toArray.size) | _ => stuck "call: a method without a receiver" : Sem Next).run P w)
      rw [e1, e2]; exact h1
  | methodOf t name =>
    cases hg
    cases args with
    | nil => exact nomatch (show false = true from h)
    | cons r rest =>
      obtain ⟨x, ys, hr, hys, rfl⟩ := ha
      obtain ⟨b, hb, h1⟩ := optK_iff.1 (show optK (fun b => methodCallK P H (cond b r (.iface t r)) name rest σ K) (isIfaceT P t) = true from h)
      have e1 : (x :: ys).toArray.extract 1 (x :: ys).toArray.size = ys.toArray := by simp
      have e2 : (x :: ys).toArray[0]? = some x := by simp
      unfold isIfaceT at hb
      split at hb
      · rename_i ms hu
        cases hb
        have h2 := methodCallK_ok hH (show methodCallK P H r name rest σ K = true from h1) hr hys hw
        simp only [invoke, e1, e2, Sem.run_bind, run_underlying hu, Result.andThen_ok]
        exact h2
      · rename_i d hn hu
        cases hb
        have h2 := methodCallK_ok hH (show methodCallK P H (.iface t r) name rest σ K = true from h1) ⟨x, hr, rfl⟩ hys hw
        simp only [invoke, e1, e2, Sem.run_bind, run_underlying hu, Result.andThen_ok]
        cases d <;> first | exact h2 | exact absurd rfl (hn _) | exact absurd hu (hn _)
      · cases hb
  | via t p f b => exact nomatch (show false = true from h)
  | yield l =>
    obtain ⟨c, hl, rfl⟩ := hg
    cases cap with
    | cons _ _ => exact nomatch (show false = true from h)
    | nil => exact hH.yld (show H.yld l args σ K = true from h) hl ha hw

theorem one_iff {l : List AV} {K : AV → Bool} (h : builtinK.one l K = true) : ∃ a, l = [a] ∧ K a = true := by
  match l with
  | [] => exact nomatch (show false = true from h)
  | [a] => exact ⟨a, rfl, h⟩
  | _ :: _ :: _ => exact nomatch (show false = true from h)
theorem two_iff {l : List AV} {K : AV → AV → Bool} (h : builtinK.two l K = true) : ∃ a b, l = [a, b] ∧ K a b = true := by
  match l with
  | [] => exact nomatch (show false = true from h)
  | [_] => exact nomatch (show false = true from h)
  | [a, b] => exact ⟨a, b, rfl, h⟩
  | _ :: _ :: _ :: _ => exact nomatch (show false = true from h)
theorem LRel.one_iff {a : AV} {xs : List Value} (h : LRel e [a] xs) : ∃ x, xs = [x] ∧ VRel e a x := by
  obtain ⟨x, ys, h1, h2, rfl⟩ := h
  cases h2
  exact ⟨x, rfl, h1⟩
theorem LRel.two_iff {a b : AV} {xs : List Value} (h : LRel e [a, b] xs) : ∃ x y, xs = [x, y] ∧ VRel e a x ∧ VRel e b y := by
  obtain ⟨x, ys, h1, h2, rfl⟩ := h
  obtain ⟨y, rfl, h3⟩ := h2.one_iff
  exact ⟨x, y, rfl, h1, h3⟩

theorem builtinK_ok {b : Builtin} {ts : Array TypeId} {ty : TypeId} {consts : Array Bool} {args : List AV} {xs : List Value} {K : AV → St → Bool} (h : builtinK P b ts.toList args σ K = true) (ha : LRel e args xs) (hw : WRel P X e σ w) :
    OpOk P X e σ K ((builtin b ts ty consts xs.toArray).run P w) := by
  cases b with
  | append =>
    obtain ⟨s, x, rfl, h1⟩ := two_iff h
    obtain ⟨s', x', rfl, h2, h3⟩ := ha.two_iff
    exact OpOk.value (appendK_ok h1 h2 h3 hw)
  | cap =>
    obtain ⟨v, rfl, h1⟩ := one_iff h
    obtain ⟨x, rfl, h2⟩ := ha.one_iff
    obtain ⟨t, ht, h3⟩ := optK_iff.1 h1
    rw [Array.getElem?_toList] at ht
    exact OpOk.plain hw (fun _ h => h) (capK_ok ht h3 h2)
  | clear =>
    obtain ⟨v, rfl, h1⟩ := one_iff h
    obtain ⟨x, rfl, h2⟩ := ha.one_iff
    obtain ⟨t, ht, h3⟩ := optK_iff.1 h1
    rw [Array.getElem?_toList] at ht
    exact OpOk.value (clearK_ok ht h3 h2 hw)
  | copy =>
    obtain ⟨s, x, rfl, h1⟩ := two_iff h
    obtain ⟨s', x', rfl, h2, h3⟩ := ha.two_iff
    exact OpOk.value (copyK_ok h1 h2 h3 hw)
  | delete =>
    obtain ⟨s, x, rfl, h1⟩ := two_iff h
    obtain ⟨s', x', rfl, h2, h3⟩ := ha.two_iff
    obtain ⟨t, ht, h4⟩ := optK_iff.1 h1
    rw [Array.getElem?_toList] at ht
    exact OpOk.value (deleteK_ok ht h4 h2 h3 hw)
  | len =>
    obtain ⟨v, rfl, h1⟩ := one_iff h
    obtain ⟨x, rfl, h2⟩ := ha.one_iff
    obtain ⟨t, ht, h3⟩ := optK_iff.1 h1
    rw [Array.getElem?_toList] at ht
    exact OpOk.plain hw (fun _ h => h) (lenK_ok ht h3 h2 hw)
  | max => exact OpOk.plain hw (fun _ h => h) (maxK_ok (show minMaxK true args (fun r => K r σ) = true from h) ha)
  | min => exact OpOk.plain hw (fun _ h => h) (minK_ok (show minMaxK false args (fun r => K r σ) = true from h) ha)
  | unsafeSliceData =>
    obtain ⟨v, rfl, h1⟩ := one_iff h
    obtain ⟨x, rfl, h2⟩ := ha.one_iff
    exact OpOk.plain hw (fun _ h => h) (sliceDataK_ok (w := w) h1 h2)
  | unsafeString =>
    obtain ⟨s, x, rfl, h1⟩ := two_iff h
    obtain ⟨s', x', rfl, h2, h3⟩ := ha.two_iff
    obtain ⟨t, ht, h4⟩ := optK_iff.1 h1
    rw [Array.getElem?_toList] at ht
    exact OpOk.value (unsafeStringK_ok h4 h2 h3 hw (by rw [ht]; rfl))
  | _ => exact nomatch (show false = true from h)

theorem extract_tail (x : Value) (l : List Value) : (x :: l).toArray.extract 1 (x :: l).toArray.size = l.toArray := by simp

theorem callK_ok {H : CallH} (hH : CallHOk P X H) {c : Call} {ty : TypeId} {fr : Fr} {a : Act} {K : AV → St → Bool} (ho : ∀ x ∈ c.operands, OOk e fr a x) (h : callK P H c fr σ K = true) (hw : WRel P X e σ w) :
    OpOk P X e σ K ((do let d ← resolve a.eval c ty; invoke d.target d.args : Sem Next).run P w) := by
  have hoa : ∀ x ∈ c.args.toList, OOk e fr a x := fun x hx => ho x (by simp only [Call.operands, Array.mem_append]; exact .inr (Array.mem_toList_iff.1 hx))
  obtain ⟨args, ha, h1⟩ := opds_ok hw.glob hoa (show opds c.args.toList fr _ = true from h)
  have hmap : c.args.map a.eval = (c.args.toList.map a.eval).toArray := by apply Array.ext'; simp
  cases hc : c.callee with
  | value f =>
    rw [hc] at h1
    obtain ⟨v, hv, h2⟩ := opd_ok hw.glob (ho f (by simp [Call.operands, hc])) (show opd f fr _ = true from h1)
    obtain ⟨fn, first, cap, rfl, h3⟩ := onFunc_iff.1 h2
    obtain ⟨fs, cs, r1, r2, g', hg', r3⟩ := hv
    have h4 : appK first args (fun as => invokeK P H fn cap as σ K) = true := h3
    rw [appK_eq] at h4
    have h5 := invokeK_ok hH hg' h4 r2 (r1.append ha) hw
    have e1 : fs.toArray ++ (c.args.toList.map a.eval).toArray = (fs ++ c.args.toList.map a.eval).toArray := by simp
    simp only [resolve, hc, hmap, r3, Deferred.ofValue, e1, Sem.run_bind, Sem.run_pure, Result.andThen_ok]
    exact h5
  | invoke r name =>
    rw [hc] at h1
    obtain ⟨v, hv, h2⟩ := opd_ok hw.glob (ho r (by simp [Call.operands, hc])) (show opd r fr _ = true from h1)
    have h5 := methodCallK_ok hH (show methodCallK P H v name args σ K = true from h2) hv ha hw
    have e1 : #[a.eval r] ++ (c.args.toList.map a.eval).toArray = (a.eval r :: c.args.toList.map a.eval).toArray := by simp
    have e2 : (a.eval r :: c.args.toList.map a.eval).toArray.extract 1 (a.eval r :: c.args.toList.map a.eval).toArray.size = (c.args.toList.map a.eval).toArray := extract_tail _ _
    have e3 : (a.eval r :: c.args.toList.map a.eval).toArray[0]? = some (a.eval r) := by simp
    simp only [resolve, hc, hmap, e1, Sem.run_bind, Sem.run_pure, Result.andThen_ok, invoke, e2, e3]
    exact h5
  | builtin b =>
    rw [hc] at h1
    simp only [resolve, hc, hmap, Sem.run_bind, Sem.run_pure, Result.andThen_ok, invoke]
    exact builtinK_ok (show builtinK P b c.argTypes.toList args σ K = true from h1) ha hw
end
end Go.Ev

/- The evaluator, part 24: every wanted operation. -/
namespace Go.Ev
section
variable {P : Program} {X : Fix} {e : Env} {σ : St} {w : World}

theorem sliceBounds_len {l l' cap : Nat} {lo mx : Option Value} {v : Value} : Instr.sliceBounds true l cap lo (some v) mx = Instr.sliceBounds true l' cap lo (some v) mx := by
  cases mx <;> rfl
theorem widenK_ok {t : TypeId} {v : AV} {x : Value} {hi : Option AV} {hi' : Option Value} {K : AV → Bool} (h : widenK P t v hi σ K = true) (hv : VRel e v x) (hh : VORel e hi hi') (hw : WRel P X e σ w) :
    ∃ v' x', K v' = true ∧ VRel e v' x' ∧ ∀ lo mx, (Instr.sliceAt t x lo hi' mx).run P w = (Instr.sliceAt t x' lo hi' mx).run P w := by
  have same : K v = true → ∃ v' x', K v' = true ∧ VRel e v' x' ∧ ∀ lo mx, (Instr.sliceAt t x lo hi' mx).run P w = (Instr.sliceAt t x' lo hi' mx).run P w := fun hk => ⟨v, x, hk, hv, fun _ _ => rfl⟩
  cases hi with
  | none => exact same h
  | some hv0 =>
    obtain ⟨y, rfl, hy⟩ := hh
    cases v with
    | slice b o len cap =>
      cases cap with
      | some c => exact same h
      | none =>
        have h0 : natK hv0 (fun h => ifB (Nat.ble h len) (K (.slice b o len none)) (ifB (Nat.beq o 0) (optK (fun q => hGetK b σ fun A => onCells A fun _ n e op _ _ =>
          ifB op (ifB (Nat.beq e q.1) (ifB (Nat.beq q.2.1 0) false (ifB (Nat.ble (Nat.mul h q.2.1) n) (K (.slice b 0 h none)) false)) false) false) (sliceOf P t)) false)) = true := h
        obtain ⟨k, m, rfl, h1⟩ := natK_ok h0 hy
        rw [ifB_eq] at h1
        split at h1
        · exact same h1
        · obtain ⟨ho, h2⟩ := ifB_iff.1 h1
          obtain rfl : o = 0 := Nat.eq_of_beq_eq_true ho
          obtain ⟨q, hq, h3⟩ := optK_iff.1 h2
          obtain ⟨i, hu, hi, hsz, _⟩ := sliceOf_ok hq
          obtain ⟨A, hA, h4⟩ := hGetK_iff.1 h3
          obtain ⟨cs, n, el, op, fz, st, rfl, h5⟩ := onCells_iff.1 h4
          obtain ⟨hop, h6⟩ := ifB_iff.1 h5
          obtain ⟨hel, h7⟩ := ifB_iff.1 h6
          obtain rfl : el = q.1 := Nat.eq_of_beq_eq_true hel
          cases hz : Nat.beq q.2.1 0 with
          | true => rw [hz] at h7; cases h7
          | false =>
            rw [hz, ifB_false] at h7
            obtain ⟨hle, hk⟩ := ifB_iff.1 h7
            have hle : m * q.2.1 ≤ n := Nat.le_of_ble_eq_true hle
            obtain ⟨a, cp, hb, hlc, hcap, rfl⟩ := hv
            have hcap := hcap rfl
            obtain ⟨c', ob, hc', hob, ⟨C, lo, hi', rfl, hr⟩, _⟩ := hw.blk b _ hA
            obtain ⟨K', i', k1, k2, k3⟩ := hr.opened hop
            rw [hcap] at k1; cases k1
            rw [hi] at k2; cases k2
            have hn := hr.le
            have hpos : 0 < q.2.1 := Nat.pos_of_ne_zero (fun hh => by rw [hh] at hz; cases hz)
            have hm : m ≤ cp := by
              rw [k3, hsz] at hn
              exact Nat.le_of_mul_le_mul_right (Nat.le_trans hle hn) hpos
            refine ⟨_, .slice (some ⟨a, 0, none⟩) m cp, hk, ⟨a, cp, hb, hm, fun _ => hcap, rfl⟩, fun lo mx => ?_⟩
            simp only [Instr.sliceAt, Instr.slice, Sem.run_bind, run_underlying hu, Result.andThen_ok]
            rw [sliceBounds_len (l := len) (l' := m)]
    | _ => exact same h

theorem dispatch0_ok {H : CallH} (hH : CallHOk P X H) {o : Oper} {fr : Fr} {a : Act} {K : AV → St → Bool} (ho : ∀ x ∈ o.op.operands, OOk e fr a x) (h : dispatch0 P H o.op fr σ K = true) (hw : WRel P X e σ w) :
    OpOk P X e σ K ((execOp a.eval o).run P w) := by
  obtain ⟨dst, op, ty, pos, after, guard⟩ := o
  simp only at ho h
  have hg := hw.glob
  cases op with
  | move x =>
    obtain ⟨v, hv, h1⟩ := opd_ok hg (ho x (by simp [Op.operands])) (show opd x fr _ = true from h)
    exact ⟨v, e, σ, Env.Le.refl e, hw, hv, h1, rfl⟩
  | assign x =>
    obtain ⟨v, hv, h1⟩ := opd_ok hg (ho x (by simp [Op.operands])) (show opd x fr _ = true from h)
    exact ⟨v, e, σ, Env.Le.refl e, hw, hv, h1, rfl⟩
  | pick c x y =>
    obtain ⟨v, hv, h1⟩ := opd_ok hg (ho c (by simp [Op.operands])) (show opd c fr _ = true from h)
    obtain ⟨b, rfl, h2⟩ := onBool_iff.1 h1
    have hb : a.eval c = .bool b := hv
    cases b with
    | true =>
      rw [ifB_true] at h2
      obtain ⟨v, hv, h3⟩ := opd_ok hg (ho x (by simp [Op.operands])) h2
      have : (execOp a.eval ⟨dst, .pick c x y, ty, pos, after, guard⟩).run P w = .ok (.value (a.eval x)) w := by simp [execOp, hb, asBool]
      rw [this]
      exact ⟨v, e, σ, Env.Le.refl e, hw, hv, h3, rfl⟩
    | false =>
      rw [ifB_false] at h2
      obtain ⟨v, hv, h3⟩ := opd_ok hg (ho y (by simp [Op.operands])) h2
      have : (execOp a.eval ⟨dst, .pick c x y, ty, pos, after, guard⟩).run P w = .ok (.value (a.eval y)) w := by simp [execOp, hb, asBool]
      rw [this]
      exact ⟨v, e, σ, Env.Le.refl e, hw, hv, h3, rfl⟩
  | alloc t =>
    obtain ⟨A, f, hk, hn⟩ := allocK_ok (e := e) (w := w) (show allocK P t (fun A f => newBlkK A σ fun b σ => K (f b) σ) = true from h)
    exact OpOk.value (OpOk.new hw hn hk)
  | box t x =>
    obtain ⟨v, hv, h1⟩ := opd_ok hg (ho x (by simp [Op.operands])) (show opd x fr (fun v => boxK t v fun A f => newBlkK A σ fun b σ => K (f b) σ) = true from h)
    obtain ⟨A, f, hk, hn⟩ := boxK_ok (P := P) (w := w) h1 hv
    exact OpOk.value (OpOk.new hw hn hk)
  | build t ps =>
    obtain ⟨vs, hv, h1⟩ := partsK_ok hg (fun x hx => ho x.2 (by simp only [Op.operands, List.mem_toArray, List.mem_map]; exact ⟨x, hx, rfl⟩)) (show partsK ps.toList fr _ = true from h)
    have hm : (ps.map fun (i, x) => (i, a.eval x)).toList = ps.toList.map fun p => (p.1, a.eval p.2) := by simp
    exact OpOk.plain hw (fun _ h => h) (buildK_ok (xs := ps.map fun (i, x) => (i, a.eval x)) h1 (by rw [hm]; exact hv))
  | buildSlice t n ps =>
    obtain ⟨vs, hv, h1⟩ := partsK_ok hg (fun x hx => ho x.2 (by simp only [Op.operands, List.mem_toArray, List.mem_map]; exact ⟨x, hx, rfl⟩)) (show partsK ps.toList fr (fun l => buildSliceK P t n l fun A f => newBlkK A σ fun b σ => K (f b) σ) = true from h)
    have hm : (ps.map fun (i, x) => (i, a.eval x)).toList = ps.toList.map fun p => (p.1, a.eval p.2) := by simp
    obtain ⟨A, f, hk, hn⟩ := buildSliceK_ok (xs := ps.map fun (i, x) => (i, a.eval x)) (w := w) h1 (by rw [hm]; exact hv)
    exact OpOk.value (OpOk.new hw hn hk)
  | insert t m k v =>
    obtain ⟨m', hm, h1⟩ := opd_ok hg (ho m (by simp [Op.operands])) (show opd m fr _ = true from h)
    obtain ⟨k', hk, h2⟩ := opd_ok hg (ho k (by simp [Op.operands])) h1
    obtain ⟨v', hv, h3⟩ := opd_ok hg (ho v (by simp [Op.operands])) h2
    exact OpOk.skip (mapUpdateK_ok h3 hm hk hv hw)
  | load t x =>
    obtain ⟨v, hv, h1⟩ := opd_ok hg (ho x (by simp [Op.operands])) (show opd x fr _ = true from h)
    obtain ⟨u, y, h2, h3, h4, _⟩ := loadK_ok h1 hv hw
    exact OpOk.value ⟨u, y, e, σ, w, h4, Env.Le.refl e, hw, h3, h2, rfl⟩
  | store t x y =>
    obtain ⟨v, hv, h1⟩ := opd_ok hg (ho x (by simp [Op.operands])) (show opd x fr _ = true from h)
    obtain ⟨u, hu, h2⟩ := opd_ok hg (ho y (by simp [Op.operands])) h1
    obtain ⟨σ', w', h3, h4, h5, h6, h7⟩ := storeK_ok h2 hv hu hw
    exact OpOk.skip ⟨e, σ', w', h7, Env.Le.refl e, h4, h3, h5⟩
  | ready g => exact nomatch (show false = true from h)
  | waits g => exact OpOk.plain hw (fun _ h => h) (waitsK_ok (K := fun v => K v σ) h hw)
  | nilCheck x =>
    obtain ⟨v, hv, h1⟩ := opd_ok hg (ho x (by simp [Op.operands])) (show opd x fr _ = true from h)
    exact nilCheckK_ok h1 hv hw (fun _ h => h)
  | binOp op t x y z =>
    obtain ⟨u, hu, h1⟩ := opd_ok hg (ho x (by simp [Op.operands])) (show opd x fr _ = true from h)
    obtain ⟨v, hv, h2⟩ := opd_ok hg (ho y (by simp [Op.operands])) h1
    obtain ⟨r, z, h3, h4, h5, h6⟩ := binK_ok h2 hu hv hw
    exact OpOk.plain hw (fun _ h => h) ⟨r, z, h3, h4, by simp [h5, h6]⟩
  | unOp op t x =>
    obtain ⟨v, hv, h1⟩ := opd_ok hg (ho x (by simp [Op.operands])) (show opd x fr _ = true from h)
    exact OpOk.plain hw (fun _ h => h) (unK_ok (w := w) h1 hv)
  | convert s d x =>
    obtain ⟨v, hv, h1⟩ := opd_ok hg (ho x (by simp [Op.operands])) (show opd x fr _ = true from h)
    exact OpOk.value (convK_ok h1 hv hw)
  | sliceToArrayPointer d x =>
    obtain ⟨v, hv, h1⟩ := opd_ok hg (ho x (by simp [Op.operands])) (show opd x fr _ = true from h)
    exact OpOk.plain hw (fun _ h => h) (s2apK_ok (w := w) h1 hv)
  | makeInterface t x =>
    obtain ⟨v, hv, h1⟩ := opd_ok hg (ho x (by simp [Op.operands])) (show opd x fr _ = true from h)
    exact OpOk.plain hw (fun _ h => h) (makeInterfaceK_ok (w := w) h1 hv)
  | makeFunc fn f c =>
    have h : (Fn.rec (fun _ => true) (fun _ => true) (fun _ _ => true) (fun _ _ _ _ => true) (fun _ => false) fn && (opds f.toList fr fun a => opds c.toList fr fun b => K (.func fn a b) σ)) = true := h
    rw [Bool.and_eq_true] at h
    obtain ⟨hfn, h⟩ := h
    have hgr : GRel e fn fn := by cases fn <;> first | rfl | cases hfn
    obtain ⟨vs, hv, h1⟩ := opds_ok hg (fun x hx => ho x (by simp only [Op.operands, Array.mem_append]; exact .inl (Array.mem_toList_iff.1 hx))) h
    obtain ⟨us, hu, h2⟩ := opds_ok hg (fun x hx => ho x (by simp only [Op.operands, Array.mem_append]; exact .inr (Array.mem_toList_iff.1 hx))) h1
    have e1 : f.map a.eval = (f.toList.map a.eval).toArray := by apply Array.ext'; simp
    have e2 : c.map a.eval = (c.toList.map a.eval).toArray := by apply Array.ext'; simp
    refine OpOk.value (s := Instr.makeFunc fn (f.map a.eval) (c.map a.eval)) ⟨.func fn vs us, _, e, σ, w, rfl, Env.Le.refl e, hw, ?_, h2, rfl⟩
    rw [e1, e2]
    exact ⟨_, _, hv, hu, _, hgr, rfl⟩
  | makeMap t r =>
    obtain ⟨v, hv, h1⟩ := opdO_ok hg (fun y hy => ho y (by subst hy; simp [Op.operands])) (show opdO r fr (fun r => makeMapK P t r fun A f => newBlkK A σ fun b σ => K (f b) σ) = true from h)
    obtain ⟨A, f, hk, hn⟩ := makeMapK_ok (w := w) h1 hv
    exact OpOk.value (OpOk.new hw hn hk)
  | makeChan t x => exact nomatch (show false = true from h)
  | makeSlice t l c =>
    obtain ⟨u, hu, h1⟩ := opd_ok hg (ho l (by simp [Op.operands])) (show opd l fr (fun l => opd c fr fun c => makeSliceK P t l c fun A f => newBlkK A σ fun b σ => K (f b) σ) = true from h)
    obtain ⟨v, hv, h2⟩ := opd_ok hg (ho c (by simp [Op.operands])) h1
    obtain ⟨A, f, hk, hn⟩ := makeSliceK_ok (w := w) h2 hu hv
    exact OpOk.value (OpOk.new hw hn hk)
  | slice t x lo hi mx =>
    obtain ⟨v, hv, h1⟩ := opd_ok hg (ho x (by simp [Op.operands])) (show opd x fr _ = true from h)
    obtain ⟨l, hl, h2⟩ := opdO_ok hg (fun y hy => ho y (by subst hy; simp [Op.operands])) h1
    obtain ⟨r, hr, h3⟩ := opdO_ok hg (fun y hy => ho y (by subst hy; simp [Op.operands])) h2
    obtain ⟨m, hm, h4⟩ := opdO_ok hg (fun y hy => ho y (by subst hy; simp [Op.operands])) h3
    obtain ⟨v', x', h5, hv', hsl⟩ := widenK_ok h4 hv hr hw
    obtain ⟨u, z, k1, k2, k3⟩ := sliceK_ok (w := w) h5 hv' hl hr hm
    exact OpOk.plain hw (fun _ h => h) ⟨u, z, k1, k2, by rw [hsl]; exact k3⟩
  | fieldAddr t x f =>
    obtain ⟨v, hv, h1⟩ := opd_ok hg (ho x (by simp [Op.operands])) (show opd x fr _ = true from h)
    exact OpOk.plain hw (fun _ h => h) (fieldAddrK_ok (w := w) h1 hv)
  | field t x f =>
    obtain ⟨v, hv, h1⟩ := opd_ok hg (ho x (by simp [Op.operands])) (show opd x fr _ = true from h)
    exact OpOk.plain hw (fun _ h => h) (fieldK_ok (w := w) h1 hv)
  | indexAddr t x i =>
    obtain ⟨v, hv, h1⟩ := opd_ok hg (ho x (by simp [Op.operands])) (show opd x fr _ = true from h)
    obtain ⟨u, hu, h2⟩ := opd_ok hg (ho i (by simp [Op.operands])) h1
    exact OpOk.plain hw (fun _ h => h) (indexAddrK_ok (w := w) h2 hv hu)
  | index t x i =>
    obtain ⟨v, hv, h1⟩ := opd_ok hg (ho x (by simp [Op.operands])) (show opd x fr _ = true from h)
    obtain ⟨u, hu, h2⟩ := opd_ok hg (ho i (by simp [Op.operands])) h1
    exact OpOk.plain hw (fun _ h => h) (indexK_ok (w := w) h2 hv hu)
  | lookup t x i ok =>
    obtain ⟨v, hv, h1⟩ := opd_ok hg (ho x (by simp [Op.operands])) (show opd x fr _ = true from h)
    obtain ⟨u, hu, h2⟩ := opd_ok hg (ho i (by simp [Op.operands])) h1
    exact OpOk.plain hw (fun _ h => h) (lookupK_ok h2 hv hu hw)
  | mapUpdate t m k v =>
    obtain ⟨m', hm, h1⟩ := opd_ok hg (ho m (by simp [Op.operands])) (show opd m fr _ = true from h)
    obtain ⟨k', hk, h2⟩ := opd_ok hg (ho k (by simp [Op.operands])) h1
    obtain ⟨v', hv, h3⟩ := opd_ok hg (ho v (by simp [Op.operands])) h2
    exact OpOk.skip (mapUpdateK_ok h3 hm hk hv hw)
  | mapEntry t m k =>
    obtain ⟨m', hm, h1⟩ := opd_ok hg (ho m (by simp [Op.operands])) (show opd m fr _ = true from h)
    obtain ⟨k', hk, h2⟩ := opd_ok hg (ho k (by simp [Op.operands])) h1
    exact OpOk.value (mapEntryK_ok h2 hm hk hw)
  | entryStore t m s v =>
    obtain ⟨m', hm, h1⟩ := opd_ok hg (ho m (by simp [Op.operands])) (show opd m fr _ = true from h)
    obtain ⟨k', hk, h2⟩ := opd_ok hg (ho s (by simp [Op.operands])) h1
    obtain ⟨v', hv, h3⟩ := opd_ok hg (ho v (by simp [Op.operands])) h2
    exact OpOk.skip (entryStoreK_ok h3 hm hk hv hw)
  | range t x =>
    obtain ⟨v, hv, h1⟩ := opd_ok hg (ho x (by simp [Op.operands])) (show opd x fr _ = true from h)
    exact OpOk.value (rangeK_ok h1 hv hw)
  | next it s =>
    obtain ⟨v, hv, h1⟩ := opd_ok hg (ho it (by simp [Op.operands])) (show opd it fr _ = true from h)
    exact OpOk.value (nextK_ok h1 hv hw)
  | entry it =>
    obtain ⟨v, hv, h1⟩ := opd_ok hg (ho it (by simp [Op.operands])) (show opd it fr _ = true from h)
    exact OpOk.plain hw (fun _ h => h) (entryK_ok h1 hv hw)
  | typeAssert x t asserted ok =>
    obtain ⟨v, hv, h1⟩ := opd_ok hg (ho x (by simp [Op.operands])) (show opd x fr _ = true from h)
    exact OpOk.plain hw (fun _ h => h) (typeAssertK_ok (w := w) h1 hv)
  | extract x i =>
    obtain ⟨v, hv, h1⟩ := opd_ok hg (ho x (by simp [Op.operands])) (show opd x fr _ = true from h)
    exact OpOk.plain hw (fun _ h => h) (extractK_ok (w := w) h1 hv)
  | call c => exact callK_ok hH ho (show callK P H c fr σ K = true from h) hw
  | go c => exact nomatch (show false = true from h)
  | defer c =>
    have h0 : opds c.args.toList fr _ = true := h
    have hoa : ∀ x ∈ c.args.toList, OOk e fr a x := fun x hx => ho x (by simp only [Op.operands, Call.operands, Array.mem_append]; exact .inr (Array.mem_toList_iff.1 hx))
    obtain ⟨args, ha, h1⟩ := opds_ok hg hoa h0
    have hmap : c.args.map a.eval = (c.args.toList.map a.eval).toArray := by apply Array.ext'; simp
    cases hc : c.callee with
    | value f =>
      rw [hc] at h1
      obtain ⟨v, hv, h2⟩ := opd_ok hg (ho f (by simp [Op.operands, Call.operands, hc])) (show opd f fr _ = true from h1)
      obtain ⟨fn, first, cap, rfl, h3⟩ := onFunc_iff.1 h2
      obtain ⟨fs, cs, r1, r2, g', hg', r3⟩ := hv
      obtain ⟨f0, rfl, h3⟩ := fnB_iff.1 h3
      cases hg'
      have h4 : appK first args (fun as => K .undef ⟨σ.h, σ.nx, ⟨.func f0, cap, as⟩ :: σ.df⟩) = true := h3
      rw [appK_eq] at h4
      have e1 : fs.toArray ++ (c.args.toList.map a.eval).toArray = (fs ++ c.args.toList.map a.eval).toArray := by simp
      have : (execOp a.eval ⟨dst, .defer c, ty, pos, after, guard⟩).run P w = .ok (.defer ⟨.fn (.func f0) cs.toArray, (fs ++ c.args.toList.map a.eval).toArray⟩) w := by
        simp only [execOp, resolve, hc, hmap, r3, Deferred.ofValue, e1, Sem.run_bind, Sem.run_pure, Result.andThen_ok]
      rw [this]
      exact ⟨rfl, ⟨.func f0, cap, first ++ args⟩, _, hw.df _, h4, rfl, _, [], cs, _, r2, r1.append ha, rfl, rfl, rfl⟩
    | invoke r name => rw [hc] at h1; cases h1
    | builtin b => rw [hc] at h1; cases h1
  | panic x =>
    obtain ⟨v, hv, h1⟩ := opd_ok hg (ho x (by simp [Op.operands])) (show opd x fr (fun v => onIface v fun _ _ => H.pan v σ) = true from h)
    obtain ⟨t, u, rfl, h2⟩ := onIface_iff.1 h1
    rw [hH.pan] at h2
    have hv0 := hv
    obtain ⟨y, hy, hx⟩ := hv
    have hx : a.eval x = .iface t y := hx
    have : (execOp a.eval ⟨dst, .panic x, ty, pos, after, guard⟩).run P w = .halt (.panic (.iface t y)) w := by
      simp only [execOp, hx]
      rfl
    rw [this]
    exact ⟨.iface t u, .iface t y, e, σ, Env.Le.refl e, hw, (show VRel e (.iface t u) (.iface t y) from ⟨y, hy, rfl⟩), rfl, h2, rfl⟩
  | send x y => exact nomatch (show false = true from h)
  | recv x y z => exact nomatch (show false = true from h)
  | select x y => exact nomatch (show false = true from h)
theorem dispatch_ok {H : CallH} (hH : CallHOk P X H) {o : Oper} {fr : Fr} {a : Act} {K : AV → St → Bool} (ho : ∀ x ∈ o.op.operands, OOk e fr a x) (h : dispatch P H o.op fr σ K = true) (hw : WRel P X e σ w) :
    OpOk P X e σ K ((execOp a.eval o).run P w) := by
  unfold dispatch at h
  cases hc : H.orc o.op fr with
  | none => rw [hc, optB_none] at h; exact dispatch0_ok hH ho h hw
  | some v =>
    rw [hc, optB_some] at h
    obtain ⟨x, h1, h2⟩ := hH.orc hc ho hw
    rw [h1]
    exact ⟨v, e, σ, Env.Le.refl e, hw, h2, h, rfl⟩
end
end Go.Ev
