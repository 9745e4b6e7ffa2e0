/- A region in the order of the text, walked with values known by properties; a guard need not be decided. No program. -/
import Derived.Test.YtblbgalpkodibaaDoorRegion
namespace Go.Proofs.YtblbgalpkodibaaDoor
open Go.RowKit

section
variable {P : Program} {ops : Array Oper} {Q : Exit → Act → World → Prop} {J : World → Prop} {M : World → World → Prop} {Φ : Nat → Value → World → Prop} {vals : Nat → Value} {i : Nat} {o : Oper} {a : Act}

structure OStep (P : Program) (ops : Array Oper) (J : World → Prop) (M : World → World → Prop) (Φ : Nat → Value → World → Prop) (vals : Nat → Value) (i : Nat) (o : Oper) (a : Act) : Prop where
  out : ∀ w, J w → (∀ k, k < i → Φ k (vals k) w) →
    if Region.wanted o (yielded ops a.tmps) then GUpon P (fun v w' => J w' ∧ M w w' ∧ Φ i v w') ((execOp a.eval o).run P w) else Φ i undef w
def wpO (P : Program) (ops : Array Oper) (J : World → Prop) (M : World → World → Prop) (Φ : Nat → Value → World → Prop) (vals : Nat → Value) : Nat → List Oper → Act → Prop
  | _, [], _ => True
  | i, o :: rest, a => OStep P ops J M Φ vals i o a ∧ wpO P ops J M Φ vals (i + 1) rest (a.put o.dst (vals i))
theorem wpO_nil : wpO P ops J M Φ vals i [] a := trivial
theorem wpO_cons {rest : List Oper} (h : OStep P ops J M Φ vals i o a) (k : wpO P ops J M Φ vals (i + 1) rest (a.put o.dst (vals i))) :
    wpO P ops J M Φ vals i (o :: rest) a := ⟨h, k⟩
theorem wpO_at (a0 : Act) : ∀ (rest : List Oper) (i : Nat), (∀ j, rest[j]? = ops[i + j]?) → wpO P ops J M Φ vals i rest (prefixAct ops vals a0 i) →
    ∀ j o, i ≤ j → ops[j]? = some o → OStep P ops J M Φ vals j o (prefixAct ops vals a0 j) := by
  intro rest
  induction rest with
  | nil =>
    intro i hr _ j o hij ho
    have := hr (j - i)
    rw [show i + (j - i) = j by omega, ho] at this
    simp at this
  | cons o rest ih =>
    intro i hr h j o' hij ho'
    have ho : ops[i]? = some o := by simpa using (hr 0).symm
    by_cases hj : j = i
    · subst hj
      have : o' = o := Option.some.inj (ho'.symm.trans ho)
      subst this
      exact h.1
    · refine ih (i + 1) (fun j => by have := hr (j + 1); rw [show i + (j + 1) = i + 1 + j by omega] at this; simpa using this) ?_ j o' (by omega) ho'
      have h2 := h.2
      simp only [prefixAct, ho, Option.bind_some]
      exact h2
theorem oper_wp_of {K : Act → World → Prop} {N : Value → World → Prop} {w : World} (h : GUpon P N ((execOp a.eval o).run P w)) (k : ∀ v w', N v w' → K (a.put o.dst v) w') : o.wp P a w K Q := by
  unfold Oper.wp
  generalize (execOp a.eval o).run P w = r at h ⊢
  cases r with
  | ok n w' =>
    cases n <;> simp only [GUpon] at h <;> simp only [Oper.upon]
    case value u => exact k u w' h
    case skip => exact k undef w' h
    case enter f args =>
      refine Calls.mono h fun e w'' ⟨u, he, hn⟩ => ?_
      subst he
      exact k u w'' hn
  | halt x w' => simp only [GUpon] at h
/-- The region in the order of the text. -/
theorem wp_list_O {id : Nat} {a0 : Act} {w0 : World} (J : World → Prop) (M : World → World → Prop) (Φ : Nat → Value → World → Prop)
    (h0 : J w0) (hM : ∀ k v w w', Φ k v w → M w w' → Φ k v w') (hMr : ∀ w, M w w)
    (hwalk : ∀ vals, wpO P ops J M Φ vals 0 ops.toList a0)
    (hfin : ∀ vals w, J w → (∀ k, k < ops.size → Φ k (vals k) w) → Q .normal (fillG vals 0 ops.toList a0) w) : (Code.region id ops false).wp P Q a0 w0 := by
  refine wp_region_list ?_
  have key : ∀ (n i : Nat), i + n = ops.size → ∀ (vals : Nat → Value) (w : World), J w → (∀ k, k < i → Φ k (vals k) w) → wpList P ops Q (ops.toList.drop i) (prefixAct ops vals a0 i) w := by
    intro n
    induction n with
    | zero =>
      intro i hi vals w hJ hΦ
      have hi' : i = ops.size := by omega
      subst hi'
      rw [List.drop_of_length_le (by simp)]
      refine wpList_nil ?_
      have h1 := fillG_prefix (ops := ops) vals a0 ops.toList 0 (fun j => by simp)
      simp only [prefixAct, Nat.zero_add, Array.length_toList] at h1
      rw [← h1]
      exact hfin vals w hJ hΦ
    | succ n ih =>
      intro i hi vals w hJ hΦ
      have hlt : i < ops.size := by omega
      have ho : ops[i]? = some ops[i] := Array.getElem?_eq_getElem hlt
      have hd : ops.toList.drop i = ops[i] :: ops.toList.drop (i + 1) := by
        rw [List.drop_eq_getElem_cons (by simpa using hlt)]; simp
      rw [hd]
      have hs := (wpO_at a0 ops.toList 0 (fun j => by simp) (hwalk vals) i ops[i] (Nat.zero_le _) ho).out w hJ hΦ
      have next : ∀ (u : Value) (w' : World), J w' → M w w' → Φ i u w' → wpList P ops Q (ops.toList.drop (i + 1)) ((prefixAct ops vals a0 i).put ops[i].dst u) w' := by
        intro u w' hJ' hm hu
        have h2 := ih (i + 1) (by omega) (fun k => if k = i then u else vals k) w' hJ' (fun k hk => by
          by_cases hki : k = i
          · subst hki; simpa using hu
          · simp only [hki, if_false]; exact hM k _ w w' (hΦ k (by omega)) hm)
        have h3 : prefixAct ops (fun k => if k = i then u else vals k) a0 (i + 1) = (prefixAct ops vals a0 i).put ops[i].dst u := by
          simp only [prefixAct, ho, Option.bind_some, if_true]
          rw [show prefixAct ops (fun k => if k = i then u else vals k) a0 i = prefixAct ops vals a0 i from prefixAct_congr i (fun k hk _ => by simp [show k ≠ i by omega])]
        rw [h3] at h2
        exact h2
      refine wpList_step fun K hK => ?_
      split
      · rename_i hw
        rw [if_pos hw] at hs
        exact oper_wp_of hs fun v w' ⟨h1, h2, h3⟩ => hK _ _ (next v w' h1 h2 h3)
      · rename_i hw
        rw [if_neg hw] at hs
        exact hK _ _ (next undef w hJ (hMr w) hs)
  have := key ops.size 0 (by omega) (fun _ => undef) w0 h0 (fun k hk => by omega)
  simpa [prefixAct] using this
theorem some_t (b : Bool) : (some b == some true) = b := by cases b <;> rfl
theorem some_f (b : Bool) : (some b == some false) = !b := by cases b <;> rfl
/-! ### steps -/
theorem oval (c : Value) (hM : ∀ w, M w w)
    (h : ∀ w, J w → (∀ k, k < i → Φ k (vals k) w) → Region.wanted o (yielded ops a.tmps) = true ∧ (execOp a.eval o).run P w = .ok (.value c) w ∧ Φ i c w) : OStep P ops J M Φ vals i o a := by
  refine ⟨fun w hJ hd => ?_⟩
  obtain ⟨h1, h2, h3⟩ := h w hJ hd
  rw [if_pos h1, h2]
  exact ⟨hJ, hM w, h3⟩
theorem ocall (f : FuncId) (args : Array Value)
    (h : ∀ w, J w → (∀ k, k < i → Φ k (vals k) w) → Region.wanted o (yielded ops a.tmps) = true ∧ (execOp a.eval o).run P w = .ok (.enter f args) w ∧
      Calls P f args w fun e w'' => ∃ u, e = .returned u ∧ J w'' ∧ M w w'' ∧ Φ i u w'') : OStep P ops J M Φ vals i o a := by
  refine ⟨fun w hJ hd => ?_⟩
  obtain ⟨h1, h2, h3⟩ := h w hJ hd
  rw [if_pos h1, h2]
  exact h3
theorem oskip
    (h : ∀ w, J w → (∀ k, k < i → Φ k (vals k) w) → Region.wanted o (yielded ops a.tmps) = false ∧ Φ i undef w) : OStep P ops J M Φ vals i o a := by
  refine ⟨fun w hJ hd => ?_⟩
  obtain ⟨h1, h2⟩ := h w hJ hd
  rw [if_neg (by simp [h1])]
  exact h2
theorem oop (m : Sem Value) (c : Value) (hM : ∀ w, M w w)
    (h : ∀ w, J w → (∀ k, k < i → Φ k (vals k) w) → Region.wanted o (yielded ops a.tmps) = true ∧ execOp a.eval o = (do let r ← m; pure (.value r)) ∧
      m.run P w = .ok c w ∧ Φ i c w) : OStep P ops J M Φ vals i o a := by
  refine ⟨fun w hJ hd => ?_⟩
  obtain ⟨h1, h2, h3, h4⟩ := h w hJ hd
  rw [if_pos h1, h2, run_val h3]
  exact ⟨hJ, hM w, h4⟩
theorem omake
    (h : ∀ w, J w → (∀ k, k < i → Φ k (vals k) w) → Region.wanted o (yielded ops a.tmps) = true ∧ ∃ c w', (execOp a.eval o).run P w = .ok (.value c) w' ∧ J w' ∧ M w w' ∧ Φ i c w') : OStep P ops J M Φ vals i o a := by
  refine ⟨fun w hJ hd => ?_⟩
  obtain ⟨h1, c, w', h2, h3⟩ := h w hJ hd
  rw [if_pos h1, h2]
  exact h3
theorem ounit
    (h : ∀ w, J w → (∀ k, k < i → Φ k (vals k) w) → Region.wanted o (yielded ops a.tmps) = true ∧ ∃ w', (execOp a.eval o).run P w = .ok .skip w' ∧ J w' ∧ M w w' ∧ Φ i undef w') : OStep P ops J M Φ vals i o a := by
  refine ⟨fun w hJ hd => ?_⟩
  obtain ⟨h1, w', h2, h3⟩ := h w hJ hd
  rw [if_pos h1, h2]
  exact h3
/-- A value behind a guard that hangs on B. -/
theorem oguard (B : Bool) (c : Value) (hM : ∀ w, M w w)
    (h : ∀ w, J w → (∀ k, k < i → Φ k (vals k) w) → Region.wanted o (yielded ops a.tmps) = B ∧ (B = true → (execOp a.eval o).run P w = .ok (.value c) w ∧ Φ i c w) ∧ (B = false → Φ i undef w)) : OStep P ops J M Φ vals i o a := by
  refine ⟨fun w hJ hd => ?_⟩
  obtain ⟨h1, h2, h3⟩ := h w hJ hd
  cases B with
  | true => rw [if_pos h1, (h2 rfl).1]; exact ⟨hJ, hM w, (h2 rfl).2⟩
  | false => rw [if_neg (by simp [h1])]; exact h3 rfl
theorem oguardop (B : Bool) (m : Sem Value) (c : Value) (hM : ∀ w, M w w)
    (h : ∀ w, J w → (∀ k, k < i → Φ k (vals k) w) → Region.wanted o (yielded ops a.tmps) = B ∧ (B = true → execOp a.eval o = (do let r ← m; pure (.value r)) ∧ m.run P w = .ok c w ∧ Φ i c w) ∧ (B = false → Φ i undef w)) : OStep P ops J M Φ vals i o a := by
  refine ⟨fun w hJ hd => ?_⟩
  obtain ⟨h1, h2, h3⟩ := h w hJ hd
  cases B with
  | true =>
    obtain ⟨q1, q2, q3⟩ := h2 rfl
    rw [if_pos h1, q1, run_val q2]; exact ⟨hJ, hM w, q3⟩
  | false => rw [if_neg (by simp [h1])]; exact h3 rfl
end
end Go.Proofs.YtblbgalpkodibaaDoor
