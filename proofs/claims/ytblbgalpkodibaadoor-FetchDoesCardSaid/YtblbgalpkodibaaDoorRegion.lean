/- A region that draws its order, by an invariant over what has come up: one walk in the order of the text. / A region that draws its order, two of whose operations turn the state. No program. / A region that draws its order, two of whose operations turn the state; some operations are known to come behind both. No program. / A region that draws its order, one of whose operations turns the state. No program. / A region in the order of the text, walked with values known by properties; a guard need not be decided. No program. / A region that draws its order: one of its operations (an event) turns the state; each value by a property that the other operations keep; the last operation by hand. / Walks in a round of a range over a function: what is no defer goes there as it goes anywhere. No program. -/
import Derived.WalkKit
import Derived.WalkLawsBesides
import Derived.Deep.QuietTactic
import Derived.BigQuiet
import Derived.RangeFuncNested
import Derived.RangeFuncCalls
import Derived.OrdersIn
import Derived.OwnWalkIn
import Derived.TacticsInMore
import Derived.BigFrameIn
namespace Go.Proofs.YtblbgalpkodibaaDoor
open Go.RowKit

section
variable {P : Program} {ops : Array Oper} {Q : Exit → Act → World → Prop} {md : Region.Mode}

theorem getD_both' {listed : Array Bool} {i : Nat} (h : listed.getD i true = false) : listed.getD i false = false := by
  rcases Nat.lt_or_ge i listed.size with h' | h'
  · simp [h'] at h ⊢; exact h
  · simp [Array.getElem?_eq_none h'] at h

theorem getD_replicate_false' (m j : Nat) : (Array.replicate m false).getD j false = false := by
  rcases Nat.lt_or_ge j m with h | h
  · simp [h]
  · simp [h]

def unlisted (listed : Array Bool) : Nat := listed.toList.count false

theorem count_set (l : List Bool) : ∀ (i : Nat), l[i]? = some false → (l.set i true).count false + 1 = l.count false := by
  induction l with
  | nil => intro i h; simp at h
  | cons b l ih =>
    intro i h
    cases i with
    | zero => simp at h; subst h; simp
    | succ i =>
      simp only [List.getElem?_cons_succ] at h
      have := ih i h
      simp only [List.set_cons_succ, List.count_cons]
      omega

theorem unlisted_set {listed : Array Bool} {i : Nat} (h : listed.getD i true = false) : unlisted (listed.setIfInBounds i true) + 1 = unlisted listed := by
  have hl : listed.toList[i]? = some false := by
    rcases Nat.lt_or_ge i listed.size with h' | h'
    · simp [h'] at h ⊢; exact h
    · simp [Array.getElem?_eq_none h'] at h
  unfold unlisted
  rw [Array.toList_setIfInBounds]
  exact count_set _ i hl

theorem ready_lt {i : Nat} {listed : Array Bool} (h : i ∈ Region.ready md ops listed) : i < ops.size := by
  obtain ⟨_, o, ho, _⟩ := mem_ready.1 h
  exact (Array.getElem?_eq_some_iff.1 ho).1

/-- An invariant that every operation that may come up keeps. -/
theorem wpAny_inv (I : Array Bool → Act → World → Prop)
    (step : ∀ listed a w i, I listed a w → i ∈ Region.ready md ops listed → wpOp P ops Q i (fun a' w' => I (listed.setIfInBounds i true) a' w') a w)
    (fin : ∀ listed a w, I listed a w → Region.ready md ops listed = [] → Q .normal a w) :
    ∀ (fuel : Nat) (listed : Array Bool) (a : Act) (w : World), unlisted listed ≤ fuel → I listed a w → wpAny P md ops Q fuel listed a w := by
  intro fuel
  induction fuel with
  | zero =>
    intro listed a w hf hI
    have hr : Region.ready md ops listed = [] := by
      apply List.eq_nil_iff_forall_not_mem.2
      intro i hi
      have := unlisted_set (mem_ready.1 hi).1
      omega
    exact ⟨hr, fin _ _ _ hI hr⟩
  | succ fuel ih =>
    intro listed a w hf hI
    refine ⟨fun hr => fin _ _ _ hI hr, fun i hi => wpOp_mono (fun a' w' h' => ?_) (step _ _ _ i hI hi)⟩
    have := unlisted_set (mem_ready.1 hi).1
    exact ih _ _ _ (by omega) h'

/-- What is asked of one operation, once its run is known. -/
def JUpon (P : Program) (N : World → Prop) (v : Value) : Result Next → Prop
  | .ok (.value u) w' => u = v ∧ N w'
  | .ok .skip w' => v = undef ∧ N w'
  | .ok (.enter f args) w' => Calls P f args w' (fun e w'' => e = .returned v ∧ N w'')
  | _ => False

structure JStep (P : Program) (ops : Array Oper) (J : Array Bool → World → Prop) (i : Nat) (o : Oper) (a : Act) (v : Value) : Prop where
  out : ∀ listed w, J listed w → i ∈ Region.ready .any ops listed →
    if Region.wanted o (yielded ops a.tmps) then JUpon P (J (listed.setIfInBounds i true)) v ((execOp a.eval o).run P w)
    else v = undef ∧ J (listed.setIfInBounds i true) w

def wpJ (P : Program) (ops : Array Oper) (J : Array Bool → World → Prop) (Q : Act → Prop) : Nat → List Oper → Act → Prop
  | _, [], a => Q a
  | i, o :: rest, a => ∃ v, JStep P ops J i o a v ∧ wpJ P ops J Q (i + 1) rest (a.put o.dst v)

/-- The direct edges order whatever reads or writes one temporary. -/
def waitsOn (o : Oper) (k : Nat) : Bool := o.after.any fun e => Region.binds .any e && e.on == k
def regionOk (ops : Array Oper) : Bool :=
  (List.range ops.size).all fun j => match ops[j]? with
    | none => true
    | some oj =>
      (match oj.op with | .select _ _ => false | _ => true) &&
      (oj.after.all fun e => !Region.binds .any e || decide (e.on < j)) &&
      (match oj.guard with | none => true | some (g, _) => ((ops[g]?).bind (·.dst)).isSome) &&
      (List.range ops.size).all fun k => decide (k = j) || match ops[k]? with
        | none => true
        | some ok => match ok.dst with
          | none => true
          | some d => oj.dst != some d && (!(oj.looksAt ops).contains d || (if k < j then waitsOn oj k else waitsOn ok j))

def prefixAct (ops : Array Oper) (vals : Nat → Value) (a : Act) : Nat → Act
  | 0 => a
  | n + 1 => (prefixAct ops vals a n).put ((ops[n]?).bind (·.dst)) (vals n)

theorem wpJ_vals {J : Array Bool → World → Prop} {Q' : Act → Prop} (a0 : Act) : ∀ (rest : List Oper) (i : Nat) (vals : Nat → Value),
    (∀ j, rest[j]? = ops[i + j]?) → wpJ P ops J Q' i rest (prefixAct ops vals a0 i) →
    ∃ vals' : Nat → Value, (∀ j, j < i → vals' j = vals j) ∧ (∀ j o, i ≤ j → ops[j]? = some o → JStep P ops J j o (prefixAct ops vals' a0 j) (vals' j)) ∧ Q' (prefixAct ops vals' a0 (i + rest.length)) := by
  have keep : ∀ (v v' : Nat → Value) (n : Nat), (∀ j, j < n → v' j = v j) → prefixAct ops v' a0 n = prefixAct ops v a0 n := by
    intro v v' n
    induction n with
    | zero => intro _; rfl
    | succ n ih => intro h; simp only [prefixAct]; rw [ih (fun j hj => h j (by omega)), h n (by omega)]
  intro rest
  induction rest with
  | nil =>
    intro i vals hr h
    refine ⟨vals, fun _ _ => rfl, fun j o hij ho => ?_, by simpa [wpJ] using h⟩
    have := hr (j - i)
    rw [show i + (j - i) = j by omega, ho] at this
    simp at this
  | cons o rest ih =>
    intro i vals hr h
    obtain ⟨v, hs, hn⟩ := h
    have ho : ops[i]? = some o := by simpa using (hr 0).symm
    let vals1 : Nat → Value := fun j => if j = i then v else vals j
    have e1 : prefixAct ops vals1 a0 i = prefixAct ops vals a0 i := keep vals vals1 i (fun j hj => by simp [vals1]; omega)
    have e2 : prefixAct ops vals1 a0 (i + 1) = (prefixAct ops vals a0 i).put o.dst v := by
      simp only [prefixAct, e1, ho, Option.bind_some]
      simp [vals1]
    rw [← e2] at hn
    obtain ⟨vals', h1, h2, h3⟩ := ih (i + 1) vals1 (fun j => by have := hr (j + 1); rw [show i + (j + 1) = i + 1 + j by omega] at this; simpa using this) hn
    have hv : vals' i = v := by rw [h1 i (by omega)]; simp [vals1]
    refine ⟨vals', fun j hj => by rw [h1 j (by omega)]; simp [vals1]; omega, fun j o' hij ho' => ?_, ?_⟩
    · by_cases hj : j = i
      · subst hj
        have : o' = o := Option.some.inj (ho'.symm.trans ho)
        subst this
        rw [hv, keep vals1 vals' j (fun k hk => h1 k (by omega)), e1]
        exact hs
      · exact h2 j o' (by omega) ho'
    · have : i + (o :: rest).length = i + 1 + rest.length := by simp; omega
      rw [this]; exact h3

theorem prefixAct_defers (vals : Nat → Value) (a : Act) (n : Nat) : (prefixAct ops vals a n).defers = a.defers := by
  induction n with
  | zero => rfl
  | succ n ih =>
    simp only [prefixAct]
    cases (ops[n]?).bind (·.dst) <;> simp [Act.put, ih]

theorem Act.put_getElem (a : Act) (d : Option Tmp) (v : Value) (t : Nat) :
    (a.put d v).tmps[t]? = if d = some t ∧ t < a.tmps.size then some v else a.tmps[t]? := by
  cases d with
  | none => simp [Act.put]
  | some d =>
    simp only [Act.put, Option.some.injEq]
    by_cases h : d = t
    · subst h
      by_cases h2 : d < a.tmps.size
      · simp [h2]
      · simp [h2]
    · simp [h, Array.getElem?_setIfInBounds_ne h]

theorem Act.put_size (a : Act) (d : Option Tmp) (v : Value) : (a.put d v).tmps.size = a.tmps.size := by
  cases d <;> simp [Act.put]

theorem prefixAct_size (vals : Nat → Value) (a : Act) (n : Nat) : (prefixAct ops vals a n).tmps.size = a.tmps.size := by
  induction n with
  | zero => rfl
  | succ n ih => simp only [prefixAct]; rw [Act.put_size, ih]

/-- Slot t behind the first n operations: the value of the one that writes it, if it is among them. -/
theorem prefixAct_at (vals : Nat → Value) (a : Act) (n t : Nat) (k : Nat) (hd : (ops[k]?).bind (·.dst) = some t)
    (huniq : ∀ j : Nat, (ops[j]?).bind (·.dst) = some t → j = k) (ht : t < a.tmps.size) :
    (prefixAct ops vals a n).tmps[t]? = if k < n then some (vals k) else a.tmps[t]? := by
  induction n with
  | zero => simp [prefixAct]
  | succ n ih =>
    simp only [prefixAct, Act.put_getElem, prefixAct_size]
    by_cases h : k = n
    · subst h
      simp [hd, ht]
    · have hne : ¬ (ops[n]?).bind (·.dst) = some t := fun e => h (huniq n e).symm
      simp only [hne, false_and, if_false, ih]
      by_cases h2 : k < n
      · simp [h2, show k < n + 1 by omega]
      · simp [h2, show ¬ k < n + 1 by omega]

theorem prefixAct_none (vals : Nat → Value) (a : Act) (n t : Nat) (hd : ∀ j : Nat, (ops[j]?).bind (·.dst) ≠ some t) :
    (prefixAct ops vals a n).tmps[t]? = a.tmps[t]? := by
  induction n with
  | zero => rfl
  | succ n ih => simp only [prefixAct, Act.put_getElem]; simp [hd n, ih]

structure OkAt (ops : Array Oper) (j : Nat) (oj : Oper) : Prop where
  sel : ∀ cs b, oj.op ≠ .select cs b
  edge : ∀ e ∈ oj.after, Region.binds .any e = true → e.on < j
  gd : ∀ g want, oj.guard = some (g, want) → ∃ d, (ops[g]?).bind (·.dst) = some d
  dst : ∀ k ok d, k ≠ j → ops[k]? = some ok → ok.dst = some d → oj.dst ≠ some d
  look : ∀ k ok d, k ≠ j → ops[k]? = some ok → ok.dst = some d → d ∈ oj.looksAt ops → if k < j then waitsOn oj k = true else waitsOn ok j = true

theorem regionOk_at (h : regionOk ops = true) {j : Nat} {oj : Oper} (hj : ops[j]? = some oj) : OkAt ops j oj := by
  have hlt : j < ops.size := (Array.getElem?_eq_some_iff.1 hj).1
  have h1 := List.all_eq_true.1 h j (List.mem_range.2 hlt)
  simp only [hj, Bool.and_eq_true] at h1
  obtain ⟨⟨⟨h1, h2⟩, h3⟩, h4⟩ := h1
  refine ⟨fun cs b e => by rw [e] at h1; simp at h1, fun e he hb => ?_, fun g want hg => ?_, fun k ok d hk hok hd => ?_, fun k ok d hk hok hd hl => ?_⟩
  · have := Array.all_eq_true'.1 h2 e he
    simp only [hb, Bool.not_true, Bool.false_or, decide_eq_true_eq] at this
    exact this
  · rw [hg] at h3
    exact Option.isSome_iff_exists.1 h3
  all_goals
    have hkl : k < ops.size := (Array.getElem?_eq_some_iff.1 hok).1
    have h5 := List.all_eq_true.1 h4 k (List.mem_range.2 hkl)
    simp only [hok, hd, hk, decide_false, Bool.false_or, Bool.and_eq_true, bne_iff_ne, ne_eq, Bool.or_eq_true] at h5
  · exact h5.1
  · rcases h5.2 with h6 | h6
    · simp [hl] at h6
    · split <;> simp_all

theorem waitsOn_spec {o : Oper} {k : Nat} (h : waitsOn o k = true) : ∃ e ∈ o.after, Region.binds .any e = true ∧ e.on = k := by
  unfold waitsOn at h
  obtain ⟨e, he, hb⟩ := Array.any_eq_true'.1 h
  simp only [Bool.and_eq_true, beq_iff_eq] at hb
  exact ⟨e, he, hb.1, hb.2⟩

/-- WHATEVER ORDER IS DRAWN: one walk in the order of the text, under an invariant J of (what has come up, the world). -/
theorem wp_region_J {id : Nat} {a0 : Act} {w0 : World} (J : Array Bool → World → Prop) {Q' : Act → Prop}
    (hm : P.follows .mixedOrders = true) (hok : regionOk ops = true)
    (h0 : J (Array.replicate ops.size false) w0.drew)
    (hwalk : wpJ P ops J Q' 0 ops.toList a0)
    (hfin : ∀ a w, Q' a → J (Array.replicate ops.size true) w → Q .normal a w) : (Code.region id ops true).wp P Q a0 w0 := by
  obtain ⟨vals, _, hstep, hQ⟩ := wpJ_vals (ops := ops) a0 ops.toList 0 (fun _ => undef) (fun j => by simp) hwalk
  simp only [Nat.zero_add, Array.length_toList] at hQ
  refine wp_region_any hm ?_
  let I : Array Bool → Act → World → Prop := fun listed a w =>
    listed.size = ops.size ∧ (∀ j oj, ops[j]? = some oj → listed.getD j false = true → ∀ e ∈ oj.after, Region.binds .any e = true → listed.getD e.on false = true) ∧
    a.defers = a0.defers ∧ a.tmps.size = a0.tmps.size ∧
    (∀ t, t < a0.tmps.size → (∀ k ok, ops[k]? = some ok → ok.dst = some t → a.tmps[t]? = if listed.getD k false then some (vals k) else a0.tmps[t]?) ∧
      ((∀ k : Nat, (ops[k]?).bind (·.dst) ≠ some t) → a.tmps[t]? = a0.tmps[t]?)) ∧ J listed w
  have uniq : ∀ {t k k' : Nat} {ok : Oper}, ops[k]? = some ok → ok.dst = some t → (ops[k']?).bind (·.dst) = some t → k' = k := by
    intro t k k' ok hk hd hb
    cases hk' : ops[k']? with
    | none => rw [hk'] at hb; cases hb
    | some ok' =>
      rw [hk'] at hb
      by_cases e : k' = k
      · exact e
      · exact absurd hb ((regionOk_at hok hk').dst k ok t (fun x => e x.symm) hk hd)
  refine wpAny_inv I ?_ ?_ ops.size _ _ _ ?_ ?_
  · -- an operation comes up
    intro listed a w i hI hi
    obtain ⟨hsz, hcl, hdf, hts, htm, hJ⟩ := hI
    obtain ⟨hun, o, ho, hall⟩ := mem_ready.1 hi
    have hilt := ready_lt hi
    have hO := regionOk_at hok ho
    -- the slots that it looks at read as in the walk of the text
    have hslot : ∀ t : Nat, t ∈ o.looksAt ops → a.tmps[t]? = (prefixAct ops vals a0 i).tmps[t]? := by
      intro t ht
      by_cases hts0 : t < a0.tmps.size
      · exact show a.tmps[t]? = (prefixAct ops vals a0 i).tmps[t]? from by
          by_cases hw : ∀ k : Nat, (ops[k]?).bind (·.dst) ≠ some t
          · rw [(htm t hts0).2 hw, prefixAct_none vals a0 i t hw]
          · have hw' : ∃ k : Nat, (ops[k]?).bind (·.dst) = some t := Classical.byContradiction fun hc => hw fun k hk => hc ⟨k, hk⟩
            obtain ⟨k, hk⟩ := hw'
            cases hok' : ops[k]? with
            | none => rw [hok'] at hk; cases hk
            | some ok =>
              have hd : ok.dst = some t := by rw [hok'] at hk; exact hk
              rw [(htm t hts0).1 k ok hok' hd, prefixAct_at vals a0 i t k hk (fun j hj => uniq hok' hd hj) hts0]
              by_cases hki : k = i
              · subst hki
                have : listed.getD k false = false := getD_both' hun
                simp [this]
              · have hl := hO.look k ok t hki hok' hd ht
                by_cases hlt : k < i
                · rw [if_pos hlt] at hl
                  obtain ⟨e, he, hb, hon⟩ := waitsOn_spec hl
                  have := hall e he hb
                  rw [hon] at this
                  simp [this, hlt]
                · rw [if_neg hlt] at hl
                  obtain ⟨e, he, hb, hon⟩ := waitsOn_spec hl
                  have hnl : listed.getD k false = false := by
                    cases hc : listed.getD k false with
                    | false => rfl
                    | true =>
                      have := hcl k ok hok' hc e he hb
                      rw [hon, getD_both' hun] at this
                      cases this
                  simp [hnl, hlt]
      · have h1 : a.tmps[t]? = none := Array.getElem?_eq_none (by omega)
        have h2 : (prefixAct ops vals a0 i).tmps[t]? = none := Array.getElem?_eq_none (by rw [prefixAct_size]; omega)
        rw [h1, h2]
    have hexec : execOp a.eval o = execOp (prefixAct ops vals a0 i).eval o := by
      refine execOp_congr o hO.sel fun x hx => ?_
      cases x with
      | tmp t =>
        show a.tmps.getD t undef = (prefixAct ops vals a0 i).tmps.getD t undef
        rw [Array.getD_eq_getD_getElem?, Array.getD_eq_getD_getElem?, hslot t ?_]
        unfold Oper.looksAt
        refine List.mem_append_left _ ?_
        exact List.mem_filterMap.2 ⟨.tmp t, by simpa using hx, rfl⟩
      | _ => rfl
    have hwant : Region.wanted o (yielded ops a.tmps) = Region.wanted o (yielded ops (prefixAct ops vals a0 i).tmps) := by
      unfold Region.wanted
      cases hg : o.guard with
      | none => rfl
      | some gw =>
        obtain ⟨g, want⟩ := gw
        obtain ⟨d, hd⟩ := hO.gd g want hg
        have hdl : d ∈ o.looksAt ops := by
          unfold Oper.looksAt
          refine List.mem_append_right _ ?_
          simp [hg, hd]
        have := hslot d hdl
        simp [yielded, hd, this]
    have hkeep : ∀ (v : Value) (w' : World), v = vals i → J (listed.setIfInBounds i true) w' → I (listed.setIfInBounds i true) (a.put o.dst v) w' := by
      intro v w' hv hJ'
      subst hv
      refine ⟨by simp [hsz], ?_, ?_, by rw [Act.put_size]; exact hts, ?_, hJ'⟩
      · intro j oj hj hl e he hb
        by_cases hij : i = j
        · subst hij
          have : oj = o := Option.some.inj (hj.symm.trans ho)
          subst this
          exact getD_set_true (hall e he hb)
        · rw [getD_set_ne false hij] at hl
          exact getD_set_true (hcl j oj hj hl e he hb)
      · cases o.dst <;> simp [Act.put, hdf]
      · intro t ht
        refine ⟨fun k ok hk hd => ?_, fun hw => ?_⟩
        · rw [Act.put_getElem]
          by_cases hki : k = i
          · subst hki
            have : ok = o := Option.some.inj (hk.symm.trans ho)
            subst this
            have hs : (listed.setIfInBounds k true).getD k false = true := by
              simp [show k < listed.size by omega]
            simp [hd, hts, ht, hs]
          · have hne : ¬ (o.dst = some t ∧ t < a.tmps.size) := fun hc => hO.dst k ok t hki hk hd hc.1
            rw [if_neg hne, (htm t ht).1 k ok hk hd, getD_set_ne false (fun x => hki x.symm)]
        · rw [Act.put_getElem]
          have hne : ¬ (o.dst = some t ∧ t < a.tmps.size) := fun hc => hw i (by simp [ho, hc.1])
          rw [if_neg hne]
          exact (htm t ht).2 hw
    have hs := (hstep i o (Nat.zero_le _) ho).out listed w hJ hi
    unfold wpOp
    simp only [ho]
    rw [hwant]
    split
    · rename_i hwn
      rw [if_pos hwn, ← hexec] at hs
      refine .inl ?_
      unfold Oper.wp
      generalize (execOp a.eval o).run P w = r at hs ⊢
      cases r with
      | ok n w' =>
        cases n <;> simp only [JUpon] at hs <;> simp only [Oper.upon]
        case value u => exact hkeep u w' hs.1 hs.2
        case skip => exact hkeep undef w' hs.1.symm hs.2
        case enter f args =>
          refine hs.mono fun e w'' ⟨he, hn⟩ => ?_
          subst he
          exact hkeep _ w'' rfl hn
      | halt x w' => simp only [JUpon] at hs
    · rename_i hwn
      rw [if_neg hwn] at hs
      exact hkeep undef w hs.1.symm hs.2
  · -- all have come up
    intro listed a w hI hr
    obtain ⟨hsz, hcl, hdf, hts, htm, hJ⟩ := hI
    have hallL : ∀ i, i < ops.size → listed.getD i false = true := by
      intro i
      induction i using Nat.strongRecOn with
      | _ i ih =>
        intro hi
        cases hc : listed.getD i true with
        | true => simp [show i < listed.size by omega] at hc ⊢; exact hc
        | false =>
          exfalso
          have ho : ops[i]? = some ops[i] := Array.getElem?_eq_getElem hi
          have hO := regionOk_at hok ho
          have : i ∈ Region.ready .any ops listed := mem_ready.2 ⟨hc, _, ho, fun e he hb => ih e.on (hO.edge e he hb) (by have := hO.edge e he hb; omega)⟩
          rw [hr] at this
          cases this
    have hlist : listed = Array.replicate ops.size true := by
      apply Array.ext
      · simp [hsz]
      · intro i h1 h2
        have := hallL i (by omega)
        simp [h1] at this ⊢
        exact this
    have hact : a = prefixAct ops vals a0 ops.size := by
      have h1 : a.defers = (prefixAct ops vals a0 ops.size).defers := by rw [prefixAct_defers, hdf]
      have h2 : a.tmps = (prefixAct ops vals a0 ops.size).tmps := by
        apply Array.ext_getElem?
        intro t
        by_cases ht : t < a0.tmps.size
        · by_cases hw : ∀ k : Nat, (ops[k]?).bind (·.dst) ≠ some t
          · rw [(htm t ht).2 hw, prefixAct_none vals a0 _ t hw]
          · have hw' : ∃ k : Nat, (ops[k]?).bind (·.dst) = some t := Classical.byContradiction fun hc => hw fun k hk => hc ⟨k, hk⟩
            obtain ⟨k, hk⟩ := hw'
            cases hok' : ops[k]? with
            | none => rw [hok'] at hk; cases hk
            | some ok =>
              have hd : ok.dst = some t := by rw [hok'] at hk; exact hk
              have hkl : k < ops.size := (Array.getElem?_eq_some_iff.1 hok').1
              rw [(htm t ht).1 k ok hok' hd, prefixAct_at vals a0 _ t k hk (fun j hj => uniq hok' hd hj) ht, hallL k hkl]
              simp [hkl]
        · rw [Array.getElem?_eq_none (by omega), Array.getElem?_eq_none (by rw [prefixAct_size]; omega)]
      cases a; cases h : prefixAct ops vals a0 ops.size
      simp_all
    rw [hact]
    exact hfin _ w hQ (hlist ▸ hJ)
  · simp [unlisted]
  · refine ⟨by simp, ?_, rfl, rfl, ?_, h0⟩
    · intro j oj _ hl
      rw [getD_replicate_false'] at hl
      cases hl
    · intro t ht
      refine ⟨fun k ok _ _ => ?_, fun _ => rfl⟩
      rw [getD_replicate_false']
      simp

theorem wpJ_nil {J : Array Bool → World → Prop} {Q' : Act → Prop} {i : Nat} {a : Act} (h : Q' a) : wpJ P ops J Q' i [] a := h
theorem wpJ_cons {J : Array Bool → World → Prop} {Q' : Act → Prop} {i : Nat} {a : Act} {o : Oper} {rest : List Oper} (v : Value)
    (h : JStep P ops J i o a v) (hk : wpJ P ops J Q' (i + 1) rest (a.put o.dst v)) : wpJ P ops J Q' i (o :: rest) a := ⟨v, h, hk⟩

/-! ### The same with values that hang on the order (a new slice, say): each value is known by a property that later steps keep. -/
def GUpon (P : Program) (K : Value → World → Prop) : Result Next → Prop
  | .ok (.value u) w' => K u w'
  | .ok .skip w' => K undef w'
  | .ok (.enter f args) w' => Calls P f args w' (fun e w'' => ∃ u, e = .returned u ∧ K u w'')
  | _ => False
structure GStep (P : Program) (ops : Array Oper) (J : World → Prop) (M : World → World → Prop) (Φ : Nat → Value → World → Prop) (vals : Nat → Value) (i : Nat) (o : Oper) (a : Act) : Prop where
  out : ∀ w, J w → (∀ k, k < ops.size → waitsOn o k = true → Φ k (vals k) w) →
    if Region.wanted o (yielded ops a.tmps) then GUpon P (fun v w' => J w' ∧ M w w' ∧ Φ i v w') ((execOp a.eval o).run P w) else Φ i undef w
def wpG (P : Program) (ops : Array Oper) (J : World → Prop) (M : World → World → Prop) (Φ : Nat → Value → World → Prop) (vals : Nat → Value) : Nat → List Oper → Act → Prop
  | _, [], _ => True
  | i, o :: rest, a => GStep P ops J M Φ vals i o a ∧ wpG P ops J M Φ vals (i + 1) rest (a.put o.dst (vals i))
theorem wpG_nil {J : World → Prop} {M : World → World → Prop} {Φ : Nat → Value → World → Prop} {vals : Nat → Value} {i : Nat} {a : Act} : wpG P ops J M Φ vals i [] a := trivial
theorem wpG_cons {J : World → Prop} {M : World → World → Prop} {Φ : Nat → Value → World → Prop} {vals : Nat → Value} {i : Nat} {a : Act} {o : Oper} {rest : List Oper} (h : GStep P ops J M Φ vals i o a) (k : wpG P ops J M Φ vals (i + 1) rest (a.put o.dst (vals i))) :
    wpG P ops J M Φ vals i (o :: rest) a := ⟨h, k⟩
theorem wpG_at {J : World → Prop} {M : World → World → Prop} {Φ : Nat → Value → World → Prop} {vals : Nat → Value} (a0 : Act) : ∀ (rest : List Oper) (i : Nat), (∀ j, rest[j]? = ops[i + j]?) → wpG P ops J M Φ vals i rest (prefixAct ops vals a0 i) →
    ∀ j o, i ≤ j → ops[j]? = some o → GStep P ops J M Φ vals j o (prefixAct ops vals a0 j) := by
  intro rest
  induction rest with
  | nil =>
    intro i hr _ j o hij ho
    have := hr (j - i)
    rw [show i + (j - i) = j by omega, ho] at this
    simp at this
  | cons o rest ih =>
    intro i hr h j o' hij ho'
    have ho : ops[i]? = some o := by simpa using (hr 0).symm
    by_cases hj : j = i
    · subst hj
      have : o' = o := Option.some.inj (ho'.symm.trans ho)
      subst this
      exact h.1
    · refine ih (i + 1) (fun j => by have := hr (j + 1); rw [show i + (j + 1) = i + 1 + j by omega] at this; simpa using this) ?_ j o' (by omega) ho'
      have h2 := h.2
      simp only [prefixAct, ho, Option.bind_some]
      exact h2
theorem prefixAct_congr {vals vals' : Nat → Value} {a0 : Act} : ∀ n, (∀ k, k < n → (ops[k]?).bind (·.dst) ≠ none → vals' k = vals k) → prefixAct ops vals' a0 n = prefixAct ops vals a0 n := by
  intro n
  induction n with
  | zero => intro _; rfl
  | succ n ih =>
    intro h
    simp only [prefixAct]
    rw [ih (fun k hk => h k (by omega))]
    cases hd : (ops[n]?).bind (·.dst) with
    | none => rfl
    | some d => rw [h n (by omega) (by rw [hd]; simp)]

theorem wp_region_G {id : Nat} {a0 : Act} {w0 : World} (J : World → Prop) (M : World → World → Prop) (Φ : Nat → Value → World → Prop)
    (hm : P.follows .mixedOrders = true) (hok : regionOk ops = true) (h0 : J w0.drew)
    (hM : ∀ k v w w', Φ k v w → M w w' → Φ k v w')
    (hwalk : ∀ vals, wpG P ops J M Φ vals 0 ops.toList a0)
    (hfin : ∀ vals w, J w → (∀ k, k < ops.size → Φ k (vals k) w) → Q .normal (prefixAct ops vals a0 ops.size) w) : (Code.region id ops true).wp P Q a0 w0 := by
  refine wp_region_any hm ?_
  let I : Array Bool → Act → World → Prop := fun listed a w =>
    listed.size = ops.size ∧ (∀ j oj, ops[j]? = some oj → listed.getD j false = true → ∀ e ∈ oj.after, Region.binds .any e = true → listed.getD e.on false = true) ∧
    a.defers = a0.defers ∧ a.tmps.size = a0.tmps.size ∧ J w ∧ ∃ vals : Nat → Value,
    (∀ t, t < a0.tmps.size → (∀ k ok, ops[k]? = some ok → ok.dst = some t → a.tmps[t]? = if listed.getD k false then some (vals k) else a0.tmps[t]?) ∧
      ((∀ k : Nat, (ops[k]?).bind (·.dst) ≠ some t) → a.tmps[t]? = a0.tmps[t]?)) ∧ (∀ k, listed.getD k false = true → Φ k (vals k) w)
  have uniq : ∀ {t k k' : Nat} {ok : Oper}, ops[k]? = some ok → ok.dst = some t → (ops[k']?).bind (·.dst) = some t → k' = k := by
    intro t k k' ok hk hd hb
    cases hk' : ops[k']? with
    | none => rw [hk'] at hb; cases hb
    | some ok' =>
      rw [hk'] at hb
      by_cases e : k' = k
      · exact e
      · exact absurd hb ((regionOk_at hok hk').dst k ok t (fun x => e x.symm) hk hd)
  refine wpAny_inv I ?_ ?_ ops.size _ _ _ ?_ ?_
  · intro listed a w i hI hi
    obtain ⟨hsz, hcl, hdf, hts, hJ, vals, htm, hΦ⟩ := hI
    obtain ⟨hun, o, ho, hall⟩ := mem_ready.1 hi
    have hilt := ready_lt hi
    have hO := regionOk_at hok ho
    have hslot : ∀ t : Nat, t ∈ o.looksAt ops → a.tmps[t]? = (prefixAct ops vals a0 i).tmps[t]? := by
      intro t ht
      by_cases hts0 : t < a0.tmps.size
      · exact show a.tmps[t]? = (prefixAct ops vals a0 i).tmps[t]? from by
          by_cases hw : ∀ k : Nat, (ops[k]?).bind (·.dst) ≠ some t
          · rw [(htm t hts0).2 hw, prefixAct_none vals a0 i t hw]
          · have hw' : ∃ k : Nat, (ops[k]?).bind (·.dst) = some t := Classical.byContradiction fun hc => hw fun k hk => hc ⟨k, hk⟩
            obtain ⟨k, hk⟩ := hw'
            cases hok' : ops[k]? with
            | none => rw [hok'] at hk; cases hk
            | some ok =>
              have hd : ok.dst = some t := by rw [hok'] at hk; exact hk
              rw [(htm t hts0).1 k ok hok' hd, prefixAct_at vals a0 i t k hk (fun j hj => uniq hok' hd hj) hts0]
              by_cases hki : k = i
              · subst hki
                have : listed.getD k false = false := getD_both' hun
                simp [this]
              · have hl := hO.look k ok t hki hok' hd ht
                by_cases hlt : k < i
                · rw [if_pos hlt] at hl
                  obtain ⟨e, he, hb, hon⟩ := waitsOn_spec hl
                  have := hall e he hb
                  rw [hon] at this
                  simp [this, hlt]
                · rw [if_neg hlt] at hl
                  obtain ⟨e, he, hb, hon⟩ := waitsOn_spec hl
                  have hnl : listed.getD k false = false := by
                    cases hc : listed.getD k false with
                    | false => rfl
                    | true =>
                      have := hcl k ok hok' hc e he hb
                      rw [hon, getD_both' hun] at this
                      cases this
                  simp [hnl, hlt]
      · have h1 : a.tmps[t]? = none := Array.getElem?_eq_none (by omega)
        have h2 : (prefixAct ops vals a0 i).tmps[t]? = none := Array.getElem?_eq_none (by rw [prefixAct_size]; omega)
        rw [h1, h2]
    have hexec : execOp a.eval o = execOp (prefixAct ops vals a0 i).eval o := by
      refine execOp_congr o hO.sel fun x hx => ?_
      cases x with
      | tmp t =>
        show a.tmps.getD t undef = (prefixAct ops vals a0 i).tmps.getD t undef
        rw [Array.getD_eq_getD_getElem?, Array.getD_eq_getD_getElem?, hslot t ?_]
        unfold Oper.looksAt
        refine List.mem_append_left _ ?_
        exact List.mem_filterMap.2 ⟨.tmp t, by simpa using hx, rfl⟩
      | _ => rfl
    have hwant : Region.wanted o (yielded ops a.tmps) = Region.wanted o (yielded ops (prefixAct ops vals a0 i).tmps) := by
      unfold Region.wanted
      cases hg : o.guard with
      | none => rfl
      | some gw =>
        obtain ⟨g, want⟩ := gw
        obtain ⟨d, hd⟩ := hO.gd g want hg
        have hdl : d ∈ o.looksAt ops := by
          unfold Oper.looksAt
          refine List.mem_append_right _ ?_
          simp [hg, hd]
        have := hslot d hdl
        simp [yielded, hd, this]
    have hkeep : ∀ (v : Value) (w' : World), J w' → (∀ k, listed.getD k false = true → Φ k (vals k) w') → Φ i v w' → I (listed.setIfInBounds i true) (a.put o.dst v) w' := by
      intro v w' hJ' hΦ' hv
      have hli : listed.getD i false = false := getD_both' hun
      refine ⟨by simp [hsz], ?_, ?_, by rw [Act.put_size]; exact hts, hJ', fun k => if k = i then v else vals k, ?_, ?_⟩
      · intro j oj hj hl e he hb
        by_cases hij : i = j
        · subst hij
          have : oj = o := Option.some.inj (hj.symm.trans ho)
          subst this
          exact getD_set_true (hall e he hb)
        · rw [getD_set_ne false hij] at hl
          exact getD_set_true (hcl j oj hj hl e he hb)
      · cases o.dst <;> simp [Act.put, hdf]
      · intro t ht
        refine ⟨fun k ok hk hd => ?_, fun hw => ?_⟩
        · rw [Act.put_getElem]
          by_cases hki : k = i
          · subst hki
            have : ok = o := Option.some.inj (hk.symm.trans ho)
            subst this
            have hs : (listed.setIfInBounds k true).getD k false = true := by
              simp [show k < listed.size by omega]
            simp [hd, hts, ht, hs]
          · have hne : ¬ (o.dst = some t ∧ t < a.tmps.size) := fun hc => hO.dst k ok t hki hk hd hc.1
            rw [if_neg hne, (htm t ht).1 k ok hk hd, getD_set_ne false (fun x => hki x.symm)]
            simp only [if_neg hki]
        · rw [Act.put_getElem]
          have hne : ¬ (o.dst = some t ∧ t < a.tmps.size) := fun hc => hw i (by simp [ho, hc.1])
          rw [if_neg hne]
          exact (htm t ht).2 hw
      · intro k hk
        by_cases hki : k = i
        · subst hki; simpa using hv
        · rw [getD_set_ne false (fun x => hki x.symm)] at hk
          simpa [hki] using hΦ' k hk
    have hs := (wpG_at a0 ops.toList 0 (fun j => by simp) (hwalk vals) i o (Nat.zero_le _) ho).out w hJ (fun k _ hk => by
      obtain ⟨e, he, hb, hon⟩ := waitsOn_spec hk
      have := hall e he hb
      rw [hon] at this
      exact hΦ k this)
    unfold wpOp
    simp only [ho]
    rw [hwant]
    split
    · rename_i hwn
      rw [if_pos hwn, ← hexec] at hs
      refine .inl ?_
      unfold Oper.wp
      generalize (execOp a.eval o).run P w = r at hs ⊢
      cases r with
      | ok n w' =>
        cases n <;> simp only [GUpon] at hs <;> simp only [Oper.upon]
        case value u => exact hkeep u w' hs.1 (fun k hk => hM k _ w w' (hΦ k hk) hs.2.1) hs.2.2
        case skip => exact hkeep undef w' hs.1 (fun k hk => hM k _ w w' (hΦ k hk) hs.2.1) hs.2.2
        case enter f args =>
          refine hs.mono fun e w'' ⟨u, he, hn⟩ => ?_
          subst he
          exact hkeep u w'' hn.1 (fun k hk => hM k _ w w'' (hΦ k hk) hn.2.1) hn.2.2
      | halt x w' => simp only [GUpon] at hs
    · rename_i hwn
      rw [if_neg hwn] at hs
      exact hkeep undef w hJ hΦ hs
  · intro listed a w hI hr
    obtain ⟨hsz, hcl, hdf, hts, hJ, vals, htm, hΦ⟩ := hI
    have hallL : ∀ i, i < ops.size → listed.getD i false = true := by
      intro i
      induction i using Nat.strongRecOn with
      | _ i ih =>
        intro hi
        cases hc : listed.getD i true with
        | true => simp [show i < listed.size by omega] at hc ⊢; exact hc
        | false =>
          exfalso
          have ho : ops[i]? = some ops[i] := Array.getElem?_eq_getElem hi
          have hO := regionOk_at hok ho
          have : i ∈ Region.ready .any ops listed := mem_ready.2 ⟨hc, _, ho, fun e he hb => ih e.on (hO.edge e he hb) (by have := hO.edge e he hb; omega)⟩
          rw [hr] at this
          cases this
    have hact : a = prefixAct ops vals a0 ops.size := by
      have h1 : a.defers = (prefixAct ops vals a0 ops.size).defers := by rw [prefixAct_defers, hdf]
      have h2 : a.tmps = (prefixAct ops vals a0 ops.size).tmps := by
        apply Array.ext_getElem?
        intro t
        by_cases ht : t < a0.tmps.size
        · by_cases hw : ∀ k : Nat, (ops[k]?).bind (·.dst) ≠ some t
          · rw [(htm t ht).2 hw, prefixAct_none vals a0 _ t hw]
          · have hw' : ∃ k : Nat, (ops[k]?).bind (·.dst) = some t := Classical.byContradiction fun hc => hw fun k hk => hc ⟨k, hk⟩
            obtain ⟨k, hk⟩ := hw'
            cases hok' : ops[k]? with
            | none => rw [hok'] at hk; cases hk
            | some ok =>
              have hd : ok.dst = some t := by rw [hok'] at hk; exact hk
              have hkl : k < ops.size := (Array.getElem?_eq_some_iff.1 hok').1
              rw [(htm t ht).1 k ok hok' hd, prefixAct_at vals a0 _ t k hk (fun j hj => uniq hok' hd hj) ht, hallL k hkl]
              simp [hkl]
        · rw [Array.getElem?_eq_none (by omega), Array.getElem?_eq_none (by rw [prefixAct_size]; omega)]
      cases a; cases h : prefixAct ops vals a0 ops.size
      simp_all
    rw [hact]
    exact hfin vals w hJ (fun k hk => hΦ k (hallL k hk))
  · simp [unlisted]
  · refine ⟨by simp, ?_, rfl, rfl, h0, fun _ => undef, ?_, fun k hk => ?_⟩
    · intro j oj _ hl
      rw [getD_replicate_false'] at hl
      cases hl
    · intro t ht
      refine ⟨fun k ok _ _ => ?_, fun _ => rfl⟩
      rw [getD_replicate_false']
      simp
    · rw [getD_replicate_false'] at hk
      cases hk

/-- Each operation but the last is waited for by a later one. -/
def leadsTo (ops : Array Oper) : Bool := (List.range (ops.size - 1)).all fun k => (List.range ops.size).any fun j => decide (k < j) && match ops[j]? with | none => false | some o => waitsOn o k
theorem leadsTo_at (h : leadsTo ops = true) {k : Nat} (hk : k + 1 < ops.size) : ∃ j oj, k < j ∧ ops[j]? = some oj ∧ waitsOn oj k = true := by
  have h1 := List.all_eq_true.1 h k (List.mem_range.2 (by omega))
  obtain ⟨j, _, hj⟩ := List.any_eq_true.1 h1
  simp only [Bool.and_eq_true, decide_eq_true_eq] at hj
  obtain ⟨h2, h3⟩ := hj
  cases ho : ops[j]? with
  | none => rw [ho] at h3; cases h3
  | some o => rw [ho] at h3; exact ⟨j, o, h2, ho, h3⟩
theorem wpG_take {J : World → Prop} {M : World → World → Prop} {Φ : Nat → Value → World → Prop} {n : Nat} (a0 : Act) (hn : ops.size = n + 1) (vals : Nat → Value) (h : wpG P ops J M Φ vals 0 (ops.toList.take n) a0)
    {i : Nat} {o : Oper} (hi : i < n) (ho : ops[i]? = some o) : GStep P ops J M Φ vals i o (prefixAct ops vals a0 i) := by
  have key : ∀ (rest : List Oper) (i : Nat), (∀ j, j < rest.length → rest[j]? = ops[i + j]?) → wpG P ops J M Φ vals i rest (prefixAct ops vals a0 i) → ∀ j o, i ≤ j → j < i + rest.length → ops[j]? = some o → GStep P ops J M Φ vals j o (prefixAct ops vals a0 j) := by
    intro rest
    induction rest with
    | nil => intro i _ _ j o h1 h2; simp at h2; omega
    | cons o rest ih =>
      intro i hr h j o' hij hjl ho'
      have ho : ops[i]? = some o := by simpa using (hr 0 (by simp)).symm
      by_cases hj : j = i
      · subst hj
        have : o' = o := Option.some.inj (ho'.symm.trans ho)
        subst this
        exact h.1
      · refine ih (i + 1) (fun j hj => by have := hr (j + 1) (by simp; omega); rw [show i + (j + 1) = i + 1 + j by omega] at this; simpa using this) ?_ j o' (by omega) (by simp at hjl; omega) ho'
        have h2 := h.2
        simp only [prefixAct, ho, Option.bind_some]
        exact h2
  refine key _ 0 (fun j hj => ?_) h i o (Nat.zero_le _) (by simp; omega) ho
  simp only [List.length_take, Array.length_toList] at hj
  rw [List.getElem?_take, if_pos (by omega)]
  simp

theorem any_region_L {n : Nat} {a0 : Act} {w0 : World} {ol : Oper} (J : World → Prop) (M : World → World → Prop) (Φ : Nat → Value → World → Prop)
    (hok : regionOk ops = true) (h0 : J w0.drew)
    (hM : ∀ k v w w', Φ k v w → M w w' → Φ k v w')
    (hn : ops.size = n + 1) (hol : ops[n]? = some ol) (hgl : ol.guard = none) (hlead : leadsTo ops = true)
    (hwalk : ∀ vals, wpG P ops J M Φ vals 0 (ops.toList.take n) a0)
    (hfin : ∀ vals w, J w → (∀ k, k < n → Φ k (vals k) w) → ol.wp P (prefixAct ops vals a0 n) w (Q .normal) Q) : wpAny P .any ops Q ops.size (Array.replicate ops.size false) a0 { w0 with drawn := w0.drawn + 1 } := by
  let I : Array Bool → Act → World → Prop := fun listed a w =>
    (listed.getD n false = false ∧ listed.size = ops.size ∧ (∀ j oj, ops[j]? = some oj → listed.getD j false = true → ∀ e ∈ oj.after, Region.binds .any e = true → listed.getD e.on false = true) ∧
    a.defers = a0.defers ∧ a.tmps.size = a0.tmps.size ∧ J w ∧ ∃ vals : Nat → Value,
    (∀ t, t < a0.tmps.size → (∀ k ok, ops[k]? = some ok → ok.dst = some t → a.tmps[t]? = if listed.getD k false then some (vals k) else a0.tmps[t]?) ∧
      ((∀ k : Nat, (ops[k]?).bind (·.dst) ≠ some t) → a.tmps[t]? = a0.tmps[t]?)) ∧ (∀ k, listed.getD k false = true → Φ k (vals k) w)) ∨ (Region.ready .any ops listed = [] ∧ Q .normal a w)
  have uniq : ∀ {t k k' : Nat} {ok : Oper}, ops[k]? = some ok → ok.dst = some t → (ops[k']?).bind (·.dst) = some t → k' = k := by
    intro t k k' ok hk hd hb
    cases hk' : ops[k']? with
    | none => rw [hk'] at hb; cases hb
    | some ok' =>
      rw [hk'] at hb
      by_cases e : k' = k
      · exact e
      · exact absurd hb ((regionOk_at hok hk').dst k ok t (fun x => e x.symm) hk hd)
  refine wpAny_inv I ?_ ?_ ops.size _ _ _ ?_ ?_
  · intro listed a w i hI hi
    rcases hI with hI | ⟨hr, _⟩
    case inr => rw [hr] at hi; cases hi
    obtain ⟨hln, hsz, hcl, hdf, hts, hJ, vals, htm, hΦ⟩ := hI
    obtain ⟨hun, o, ho, hall⟩ := mem_ready.1 hi
    have hilt := ready_lt hi
    by_cases hin : i = n
    case pos =>
      subst hin
      obtain rfl : o = ol := Option.some.inj (ho.symm.trans hol)
      -- all others have come up
      have hothers : ∀ d k, k + d = i → k < i → listed.getD k false = true := by
        intro d
        induction d using Nat.strongRecOn with
        | _ d ih =>
          intro k hkd hk
          obtain ⟨j, oj, hkj, hj, hw⟩ := leadsTo_at hlead (k := k) (by omega)
          obtain ⟨e, he, hb, hon⟩ := waitsOn_spec hw
          have hjl : j < ops.size := (Array.getElem?_eq_some_iff.1 hj).1
          by_cases hji : j = i
          · subst hji
            have : oj = o := Option.some.inj (hj.symm.trans ho)
            subst this
            have := hall e he hb
            rwa [hon] at this
          · have := hcl j oj hj (ih (i - j) (by omega) j (by omega) (by omega)) e he hb
            rwa [hon] at this
      have hact : a = prefixAct ops vals a0 i := by
        have h1 : a.defers = (prefixAct ops vals a0 i).defers := by rw [prefixAct_defers, hdf]
        have h2 : a.tmps = (prefixAct ops vals a0 i).tmps := by
          apply Array.ext_getElem?
          intro t
          by_cases ht : t < a0.tmps.size
          · by_cases hw : ∀ k : Nat, (ops[k]?).bind (·.dst) ≠ some t
            · rw [(htm t ht).2 hw, prefixAct_none vals a0 _ t hw]
            · have hw' : ∃ k : Nat, (ops[k]?).bind (·.dst) = some t := Classical.byContradiction fun hc => hw fun k hk => hc ⟨k, hk⟩
              obtain ⟨k, hk⟩ := hw'
              cases hok' : ops[k]? with
              | none => rw [hok'] at hk; cases hk
              | some ok =>
                have hd : ok.dst = some t := by rw [hok'] at hk; exact hk
                have hkl : k < ops.size := (Array.getElem?_eq_some_iff.1 hok').1
                rw [(htm t ht).1 k ok hok' hd, prefixAct_at vals a0 _ t k hk (fun j hj => uniq hok' hd hj) ht]
                by_cases hki : k = i
                · subst hki; simp [hln]
                · rw [hothers (i - k) k (by omega) (by omega)]
                  simp [show k < i by omega]
          · rw [Array.getElem?_eq_none (by omega), Array.getElem?_eq_none (by rw [prefixAct_size]; omega)]
        cases a; cases h : prefixAct ops vals a0 i
        simp_all
      have hf := hfin vals w hJ (fun k hk => hΦ k (hothers (i - k) k (by omega) hk))
      have hempty : Region.ready .any ops (listed.setIfInBounds i true) = [] := by
        apply List.eq_nil_iff_forall_not_mem.2
        intro j hj
        obtain ⟨h1, _⟩ := mem_ready.1 hj
        have hjl := ready_lt hj
        by_cases hji : i = j
        · subst hji
          simp [show i < listed.size by omega] at h1
        · have h2 := getD_both' h1
          rw [getD_set_ne false hji, hothers (i - j) j (by omega) (by omega)] at h2
          cases h2
      unfold wpOp
      simp only [ho]
      have hw : Region.wanted o (yielded ops a.tmps) = true := by simp [Region.wanted, hgl]
      rw [if_pos hw]
      refine .inl ?_
      rw [hact]
      unfold Oper.wp at hf ⊢
      generalize (execOp (prefixAct ops vals a0 i).eval o).run P w = r at hf ⊢
      cases r with
      | ok nx w' =>
        cases nx <;> simp only [Oper.upon] at hf ⊢
        all_goals first
          | exact .inr ⟨hempty, hf⟩
          | exact hf.mono (fun e w'' h => by cases e <;> first | exact .inr ⟨hempty, h⟩ | exact h)
          | exact hf.mono (fun v w'' h => .inr ⟨hempty, h⟩)
          | exact hf
      | halt x w' => cases x <;> simp only [Oper.upon] at hf ⊢ <;> first | exact hf | exact hf.elim
    have hO := regionOk_at hok ho
    have hslot : ∀ t : Nat, t ∈ o.looksAt ops → a.tmps[t]? = (prefixAct ops vals a0 i).tmps[t]? := by
      intro t ht
      by_cases hts0 : t < a0.tmps.size
      · exact show a.tmps[t]? = (prefixAct ops vals a0 i).tmps[t]? from by
          by_cases hw : ∀ k : Nat, (ops[k]?).bind (·.dst) ≠ some t
          · rw [(htm t hts0).2 hw, prefixAct_none vals a0 i t hw]
          · have hw' : ∃ k : Nat, (ops[k]?).bind (·.dst) = some t := Classical.byContradiction fun hc => hw fun k hk => hc ⟨k, hk⟩
            obtain ⟨k, hk⟩ := hw'
            cases hok' : ops[k]? with
            | none => rw [hok'] at hk; cases hk
            | some ok =>
              have hd : ok.dst = some t := by rw [hok'] at hk; exact hk
              rw [(htm t hts0).1 k ok hok' hd, prefixAct_at vals a0 i t k hk (fun j hj => uniq hok' hd hj) hts0]
              by_cases hki : k = i
              · subst hki
                have : listed.getD k false = false := getD_both' hun
                simp [this]
              · have hl := hO.look k ok t hki hok' hd ht
                by_cases hlt : k < i
                · rw [if_pos hlt] at hl
                  obtain ⟨e, he, hb, hon⟩ := waitsOn_spec hl
                  have := hall e he hb
                  rw [hon] at this
                  simp [this, hlt]
                · rw [if_neg hlt] at hl
                  obtain ⟨e, he, hb, hon⟩ := waitsOn_spec hl
                  have hnl : listed.getD k false = false := by
                    cases hc : listed.getD k false with
                    | false => rfl
                    | true =>
                      have := hcl k ok hok' hc e he hb
                      rw [hon, getD_both' hun] at this
                      cases this
                  simp [hnl, hlt]
      · have h1 : a.tmps[t]? = none := Array.getElem?_eq_none (by omega)
        have h2 : (prefixAct ops vals a0 i).tmps[t]? = none := Array.getElem?_eq_none (by rw [prefixAct_size]; omega)
        rw [h1, h2]
    have hexec : execOp a.eval o = execOp (prefixAct ops vals a0 i).eval o := by
      refine execOp_congr o hO.sel fun x hx => ?_
      cases x with
      | tmp t =>
        show a.tmps.getD t undef = (prefixAct ops vals a0 i).tmps.getD t undef
        rw [Array.getD_eq_getD_getElem?, Array.getD_eq_getD_getElem?, hslot t ?_]
        unfold Oper.looksAt
        refine List.mem_append_left _ ?_
        exact List.mem_filterMap.2 ⟨.tmp t, by simpa using hx, rfl⟩
      | _ => rfl
    have hwant : Region.wanted o (yielded ops a.tmps) = Region.wanted o (yielded ops (prefixAct ops vals a0 i).tmps) := by
      unfold Region.wanted
      cases hg : o.guard with
      | none => rfl
      | some gw =>
        obtain ⟨g, want⟩ := gw
        obtain ⟨d, hd⟩ := hO.gd g want hg
        have hdl : d ∈ o.looksAt ops := by
          unfold Oper.looksAt
          refine List.mem_append_right _ ?_
          simp [hg, hd]
        have := hslot d hdl
        simp [yielded, hd, this]
    have hkeep : ∀ (v : Value) (w' : World), J w' → (∀ k, listed.getD k false = true → Φ k (vals k) w') → Φ i v w' → I (listed.setIfInBounds i true) (a.put o.dst v) w' := by
      intro v w' hJ' hΦ' hv
      have hli : listed.getD i false = false := getD_both' hun
      refine .inl ⟨by rw [getD_set_ne false hin]; exact hln, by simp [hsz], ?_, ?_, by rw [Act.put_size]; exact hts, hJ', fun k => if k = i then v else vals k, ?_, ?_⟩
      · intro j oj hj hl e he hb
        by_cases hij : i = j
        · subst hij
          have : oj = o := Option.some.inj (hj.symm.trans ho)
          subst this
          exact getD_set_true (hall e he hb)
        · rw [getD_set_ne false hij] at hl
          exact getD_set_true (hcl j oj hj hl e he hb)
      · cases o.dst <;> simp [Act.put, hdf]
      · intro t ht
        refine ⟨fun k ok hk hd => ?_, fun hw => ?_⟩
        · rw [Act.put_getElem]
          by_cases hki : k = i
          · subst hki
            have : ok = o := Option.some.inj (hk.symm.trans ho)
            subst this
            have hs : (listed.setIfInBounds k true).getD k false = true := by
              simp [show k < listed.size by omega]
            simp [hd, hts, ht, hs]
          · have hne : ¬ (o.dst = some t ∧ t < a.tmps.size) := fun hc => hO.dst k ok t hki hk hd hc.1
            rw [if_neg hne, (htm t ht).1 k ok hk hd, getD_set_ne false (fun x => hki x.symm)]
            simp only [if_neg hki]
        · rw [Act.put_getElem]
          have hne : ¬ (o.dst = some t ∧ t < a.tmps.size) := fun hc => hw i (by simp [ho, hc.1])
          rw [if_neg hne]
          exact (htm t ht).2 hw
      · intro k hk
        by_cases hki : k = i
        · subst hki; simpa using hv
        · rw [getD_set_ne false (fun x => hki x.symm)] at hk
          simpa [hki] using hΦ' k hk
    have hs := (wpG_take a0 hn vals (hwalk vals) (by omega) ho).out w hJ (fun k _ hk => by
      obtain ⟨e, he, hb, hon⟩ := waitsOn_spec hk
      have := hall e he hb
      rw [hon] at this
      exact hΦ k this)
    unfold wpOp
    simp only [ho]
    rw [hwant]
    split
    · rename_i hwn
      rw [if_pos hwn, ← hexec] at hs
      refine .inl ?_
      unfold Oper.wp
      generalize (execOp a.eval o).run P w = r at hs ⊢
      cases r with
      | ok n w' =>
        cases n <;> simp only [GUpon] at hs <;> simp only [Oper.upon]
        case value u => exact hkeep u w' hs.1 (fun k hk => hM k _ w w' (hΦ k hk) hs.2.1) hs.2.2
        case skip => exact hkeep undef w' hs.1 (fun k hk => hM k _ w w' (hΦ k hk) hs.2.1) hs.2.2
        case enter f args =>
          refine hs.mono fun e w'' ⟨u, he, hn⟩ => ?_
          subst he
          exact hkeep u w'' hn.1 (fun k hk => hM k _ w w'' (hΦ k hk) hn.2.1) hn.2.2
      | halt x w' => simp only [GUpon] at hs
    · rename_i hwn
      rw [if_neg hwn] at hs
      exact hkeep undef w hJ hΦ hs
  · intro listed a w hI hr
    rcases hI with hI | ⟨_, hq⟩
    case inr => exact hq
    exfalso
    obtain ⟨hln, hsz, hcl, _⟩ := hI
    have hallL : ∀ i, i < ops.size → listed.getD i false = true := by
      intro i
      induction i using Nat.strongRecOn with
      | _ i ih =>
        intro hi
        cases hc : listed.getD i true with
        | true => simp [show i < listed.size by omega] at hc ⊢; exact hc
        | false =>
          exfalso
          have ho : ops[i]? = some ops[i] := Array.getElem?_eq_getElem hi
          have hO := regionOk_at hok ho
          have : i ∈ Region.ready .any ops listed := mem_ready.2 ⟨hc, _, ho, fun e he hb => ih e.on (hO.edge e he hb) (by have := hO.edge e he hb; omega)⟩
          rw [hr] at this
          cases this
    rw [hallL n (by omega)] at hln
    cases hln
  · simp [unlisted]
  · refine .inl ⟨getD_replicate_false' _ _, by simp, ?_, rfl, rfl, h0, fun _ => undef, ?_, fun k hk => ?_⟩
    · intro j oj _ hl
      rw [getD_replicate_false'] at hl
      cases hl
    · intro t ht
      refine ⟨fun k ok _ _ => ?_, fun _ => rfl⟩
      rw [getD_replicate_false']
      simp
    · rw [getD_replicate_false'] at hk
      cases hk

/-- A step of the walk: a value; a call; a value that hangs on the world. -/
theorem wp_region_L {id n : Nat} {a0 : Act} {w0 : World} {ol : Oper} (J : World → Prop) (M : World → World → Prop) (Φ : Nat → Value → World → Prop)
    (hm : P.follows .mixedOrders = true) (hok : regionOk ops = true) (h0 : J w0.drew)
    (hM : ∀ k v w w', Φ k v w → M w w' → Φ k v w')
    (hn : ops.size = n + 1) (hol : ops[n]? = some ol) (hgl : ol.guard = none) (hlead : leadsTo ops = true)
    (hwalk : ∀ vals, wpG P ops J M Φ vals 0 (ops.toList.take n) a0)
    (hfin : ∀ vals w, J w → (∀ k, k < n → Φ k (vals k) w) → ol.wp P (prefixAct ops vals a0 n) w (Q .normal) Q) : (Code.region id ops true).wp P Q a0 w0 :=
  wp_region_any hm (any_region_L J M Φ hok h0 hM hn hol hgl hlead hwalk hfin)
theorem gval {J : World → Prop} {M : World → World → Prop} {Φ : Nat → Value → World → Prop} {vals : Nat → Value} {i : Nat} {o : Oper} {a : Act} (c : Value) (hM : ∀ w, M w w)
    (h : ∀ w, J w → (∀ k, k < ops.size → waitsOn o k = true → Φ k (vals k) w) → Region.wanted o (yielded ops a.tmps) = true ∧ (execOp a.eval o).run P w = .ok (.value c) w ∧ Φ i c w) : GStep P ops J M Φ vals i o a := by
  refine ⟨fun w hJ hd => ?_⟩
  obtain ⟨h1, h2, h3⟩ := h w hJ hd
  rw [if_pos h1, h2]
  exact ⟨hJ, hM w, h3⟩
theorem gcall {J : World → Prop} {M : World → World → Prop} {Φ : Nat → Value → World → Prop} {vals : Nat → Value} {i : Nat} {o : Oper} {a : Act} (f : FuncId) (args : Array Value)
    (h : ∀ w, J w → (∀ k, k < ops.size → waitsOn o k = true → Φ k (vals k) w) → Region.wanted o (yielded ops a.tmps) = true ∧ (execOp a.eval o).run P w = .ok (.enter f args) w ∧
      Calls P f args w fun e w'' => ∃ u, e = .returned u ∧ J w'' ∧ M w w'' ∧ Φ i u w'') : GStep P ops J M Φ vals i o a := by
  refine ⟨fun w hJ hd => ?_⟩
  obtain ⟨h1, h2, h3⟩ := h w hJ hd
  rw [if_pos h1, h2]
  exact h3
theorem gskip {J : World → Prop} {M : World → World → Prop} {Φ : Nat → Value → World → Prop} {vals : Nat → Value} {i : Nat} {o : Oper} {a : Act}
    (h : ∀ w, J w → (∀ k, k < ops.size → waitsOn o k = true → Φ k (vals k) w) → Region.wanted o (yielded ops a.tmps) = false ∧ Φ i undef w) : GStep P ops J M Φ vals i o a := by
  refine ⟨fun w hJ hd => ?_⟩
  obtain ⟨h1, h3⟩ := h w hJ hd
  rw [if_neg (by rw [h1]; simp)]
  exact h3
theorem gop {J : World → Prop} {M : World → World → Prop} {Φ : Nat → Value → World → Prop} {vals : Nat → Value} {i : Nat} {o : Oper} {a : Act} (m : Sem Value) (c : Value) (hM : ∀ w, M w w)
    (h : ∀ w, J w → (∀ k, k < ops.size → waitsOn o k = true → Φ k (vals k) w) → Region.wanted o (yielded ops a.tmps) = true ∧ execOp a.eval o = (do let r ← m; pure (.value r)) ∧ m.run P w = .ok c w ∧ Φ i c w) : GStep P ops J M Φ vals i o a := by
  refine ⟨fun w hJ hd => ?_⟩
  obtain ⟨h1, h2, h3, h4⟩ := h w hJ hd
  rw [if_pos h1, h2, Sem.run_bind, h3]
  exact ⟨hJ, hM w, h4⟩
theorem run_val {m : Sem Value} {c : Value} {w w' : World} (h : m.run P w = .ok c w') : (do let r ← m; pure (Next.value r) : Sem Next).run P w = .ok (.value c) w' := by
  rw [Sem.run_bind, h]; rfl
/-- A step that makes memory. -/
theorem gmake {J : World → Prop} {M : World → World → Prop} {Φ : Nat → Value → World → Prop} {vals : Nat → Value} {i : Nat} {o : Oper} {a : Act}
    (h : ∀ w, J w → (∀ k, k < ops.size → waitsOn o k = true → Φ k (vals k) w) → Region.wanted o (yielded ops a.tmps) = true ∧ ∃ c w', (execOp a.eval o).run P w = .ok (.value c) w' ∧ J w' ∧ M w w' ∧ Φ i c w') : GStep P ops J M Φ vals i o a := by
  refine ⟨fun w hJ hd => ?_⟩
  obtain ⟨h1, c, w', h2, h3⟩ := h w hJ hd
  rw [if_pos h1, h2]
  exact h3
theorem run_unit {m : Sem Unit} {w w' : World} (h : m.run P w = .ok () w') : (do m; pure Next.skip : Sem Next).run P w = .ok .skip w' := by
  rw [Sem.run_bind, h]; rfl
/-- A store. -/
theorem gunit {J : World → Prop} {M : World → World → Prop} {Φ : Nat → Value → World → Prop} {vals : Nat → Value} {i : Nat} {o : Oper} {a : Act}
    (h : ∀ w, J w → (∀ k, k < ops.size → waitsOn o k = true → Φ k (vals k) w) → Region.wanted o (yielded ops a.tmps) = true ∧ ∃ w', (execOp a.eval o).run P w = .ok .skip w' ∧ J w' ∧ M w w' ∧ Φ i undef w') : GStep P ops J M Φ vals i o a := by
  refine ⟨fun w hJ hd => ?_⟩
  obtain ⟨h1, w', h2, h3⟩ := h w hJ hd
  rw [if_pos h1, h2]
  exact h3
/-- The frame behind a region. -/
def fillG (vals : Nat → Value) : Nat → List Oper → Act → Act
  | _, [], a => a
  | i, o :: rest, a => fillG vals (i + 1) rest (a.put o.dst (vals i))
theorem fillG_prefix (vals : Nat → Value) (a0 : Act) : ∀ (rest : List Oper) (i : Nat), (∀ j, rest[j]? = ops[i + j]?) → fillG vals i rest (prefixAct ops vals a0 i) = prefixAct ops vals a0 (i + rest.length) := by
  intro rest
  induction rest with
  | nil => intro i _; rfl
  | cons o rest ih =>
    intro i hr
    have ho : ops[i]? = some o := by simpa using (hr 0).symm
    have := ih (i + 1) (fun j => by have := hr (j + 1); rw [show i + (j + 1) = i + 1 + j by omega] at this; simpa using this)
    simp only [prefixAct, ho, Option.bind_some] at this
    simp only [fillG, List.length_cons]
    rw [this, show i + 1 + rest.length = i + (rest.length + 1) by omega]
theorem wp_region_F {id : Nat} {a0 : Act} {w0 : World} (J : World → Prop) (M : World → World → Prop) (Φ : Nat → Value → World → Prop)
    (hm : P.follows .mixedOrders = true) (hok : regionOk ops = true) (h0 : J w0.drew)
    (hM : ∀ k v w w', Φ k v w → M w w' → Φ k v w')
    (hwalk : ∀ vals, wpG P ops J M Φ vals 0 ops.toList a0)
    (hfin : ∀ vals w, J w → (∀ k, k < ops.size → Φ k (vals k) w) → Q .normal (fillG vals 0 ops.toList a0) w) : (Code.region id ops true).wp P Q a0 w0 := by
  refine wp_region_G J M Φ hm hok h0 hM hwalk fun vals w hJ hf => ?_
  have h1 := fillG_prefix (ops := ops) vals a0 ops.toList 0 (fun j => by simp)
  simp only [prefixAct, Nat.zero_add, Array.length_toList] at h1
  rw [← h1]
  exact hfin vals w hJ hf
/-- Likewise where the last operation turns the state: it comes last whatever order is drawn. -/
theorem any_region_E {n : Nat} {a0 : Act} {w0 : World} {ol : Oper} (J : World → Prop) (M : World → World → Prop) (Φ : Nat → Value → World → Prop)
    (hok : regionOk ops = true) (h0 : J w0.drew)
    (hM : ∀ k v w w', Φ k v w → M w w' → Φ k v w')
    (hn : ops.size = n + 1) (hol : ops[n]? = some ol) (hgl : ol.guard = none) (hlead : leadsTo ops = true)
    (hwalk : ∀ vals, wpG P ops J M Φ vals 0 (ops.toList.take n) a0)
    (hfin : ∀ vals w, J w → (∀ k, k < n → Φ k (vals k) w) → ol.wp P (fillG vals 0 (ops.toList.take n) a0) w (Q .normal) Q) : wpAny P .any ops Q ops.size (Array.replicate ops.size false) a0 { w0 with drawn := w0.drawn + 1 } := by
  refine any_region_L J M Φ hok h0 hM hn hol hgl hlead hwalk fun vals w hJ hf => ?_
  have key : ∀ (rest : List Oper) (i : Nat), (∀ j, j < rest.length → rest[j]? = ops[i + j]?) → fillG vals i rest (prefixAct ops vals a0 i) = prefixAct ops vals a0 (i + rest.length) := by
    intro rest
    induction rest with
    | nil => intro i _; rfl
    | cons o rest ih =>
      intro i hr
      have ho : ops[i]? = some o := by simpa using (hr 0 (by simp)).symm
      have := ih (i + 1) (fun j hj => by have := hr (j + 1) (by simp; omega); rw [show i + (j + 1) = i + 1 + j by omega] at this; simpa using this)
      simp only [prefixAct, ho, Option.bind_some] at this
      simp only [fillG, List.length_cons]
      rw [this, show i + 1 + rest.length = i + (rest.length + 1) by omega]
  have h1 := key (ops.toList.take n) 0 (fun j hj => by
    simp only [List.length_take, Array.length_toList] at hj
    rw [List.getElem?_take, if_pos (by omega)]
    simp)
  simp only [prefixAct, Nat.zero_add, List.length_take, Array.length_toList, show min n ops.size = n by omega] at h1
  rw [← h1]
  exact hfin vals w hJ hf
theorem wp_region_E {id n : Nat} {a0 : Act} {w0 : World} {ol : Oper} (J : World → Prop) (M : World → World → Prop) (Φ : Nat → Value → World → Prop)
    (hm : P.follows .mixedOrders = true) (hok : regionOk ops = true) (h0 : J w0.drew)
    (hM : ∀ k v w w', Φ k v w → M w w' → Φ k v w')
    (hn : ops.size = n + 1) (hol : ops[n]? = some ol) (hgl : ol.guard = none) (hlead : leadsTo ops = true)
    (hwalk : ∀ vals, wpG P ops J M Φ vals 0 (ops.toList.take n) a0)
    (hfin : ∀ vals w, J w → (∀ k, k < n → Φ k (vals k) w) → ol.wp P (fillG vals 0 (ops.toList.take n) a0) w (Q .normal) Q) : (Code.region id ops true).wp P Q a0 w0 :=
  wp_region_any hm (any_region_E J M Φ hok h0 hM hn hol hgl hlead hwalk hfin)
/-- The last operation: a statement, a value. -/
theorem wp_last_skip {o : Oper} {a : Act} {w w' : World} {next : Act → World → Prop} {m : Sem Unit} (he : execOp a.eval o = (do m; pure Next.skip)) (h : m.run P w = .ok () w') (k : next (a.put o.dst undef) w') : o.wp P a w next Q := by
  unfold Oper.wp
  rw [he, Sem.run_bind, h]
  exact k
theorem wp_last_value {o : Oper} {a : Act} {w w' : World} {next : Act → World → Prop} {v : Value} (h : (execOp a.eval o).run P w = .ok (.value v) w') (k : next (a.put o.dst v) w') : o.wp P a w next Q := by
  unfold Oper.wp
  rw [h]
  exact k
end
end Go.Proofs.YtblbgalpkodibaaDoor
namespace Go.Proofs.YtblbgalpkodibaaDoor
open Go.RowKit

section
variable {P : Program} {ops : Array Oper} {Q : Exit → Act → World → Prop} {K : Bool → Bool → World → Prop} {i i1 i2 : Nat} {o : Oper} {a : Act}

def J2 (i1 i2 : Nat) (K : Bool → Bool → World → Prop) (c : Array Bool) (w : World) : Prop := K (c.getD i1 false) (c.getD i2 false) w
theorem getD_set_other {c : Array Bool} {i j : Nat} (h : i ≠ j) : (c.setIfInBounds i true).getD j false = c.getD j false := by
  simp [Array.getElem?_setIfInBounds_ne h]
theorem getD_set_at {c : Array Bool} {i : Nat} (h : c.getD i true = false) : (c.setIfInBounds i true).getD i false = true := by
  rcases Nat.lt_or_ge i c.size with h' | h'
  · simp [h']
  · simp [Array.getElem?_eq_none h'] at h
theorem j2val (h1 : i ≠ i1) (h2 : i ≠ i2) (c : Value) (h : ∀ a1 a2 w, K a1 a2 w → Region.wanted o (yielded ops a.tmps) = true ∧ (execOp a.eval o).run P w = .ok (.value c) w) : JStep P ops (J2 i1 i2 K) i o a c := by
  refine ⟨fun listed w hJ hr => ?_⟩
  obtain ⟨e1, e2⟩ := h _ _ w hJ
  rw [if_pos e1, e2]
  refine ⟨rfl, ?_⟩
  unfold J2
  rw [getD_set_other h1, getD_set_other h2]
  exact hJ
theorem j2call (h1 : i ≠ i1) (h2 : i ≠ i2) (f : FuncId) (args : Array Value) (c : Value) (h : ∀ a1 a2 w, K a1 a2 w → Region.wanted o (yielded ops a.tmps) = true ∧ (execOp a.eval o).run P w = .ok (.enter f args) w ∧ Calls P f args w fun e w' => e = .returned c ∧ K a1 a2 w') : JStep P ops (J2 i1 i2 K) i o a c := by
  refine ⟨fun listed w hJ hr => ?_⟩
  obtain ⟨e1, e2, e3⟩ := h _ _ w hJ
  rw [if_pos e1, e2]
  refine e3.mono fun e w' ⟨he, hK⟩ => ⟨he, ?_⟩
  unfold J2
  rw [getD_set_other h1, getD_set_other h2]
  exact hK
theorem j2one (h12 : i1 ≠ i2) (f : FuncId) (args : Array Value) (c : Value) (h : ∀ a2 w, K false a2 w → Region.wanted o (yielded ops a.tmps) = true ∧ (execOp a.eval o).run P w = .ok (.enter f args) w ∧ Calls P f args w fun e w' => e = .returned c ∧ K true a2 w') : JStep P ops (J2 i1 i2 K) i1 o a c := by
  refine ⟨fun listed w hJ hr => ?_⟩
  obtain ⟨hun, _⟩ := mem_ready.1 hr
  unfold J2 at hJ
  rw [getD_both' hun] at hJ
  obtain ⟨e1, e2, e3⟩ := h _ w hJ
  rw [if_pos e1, e2]
  refine e3.mono fun e w' ⟨he, hK⟩ => ⟨he, ?_⟩
  unfold J2
  rw [getD_set_at hun, getD_set_other h12]
  exact hK
theorem j2two (h12 : i2 ≠ i1) (f : FuncId) (args : Array Value) (c : Value) (h : ∀ a1 w, K a1 false w → Region.wanted o (yielded ops a.tmps) = true ∧ (execOp a.eval o).run P w = .ok (.enter f args) w ∧ Calls P f args w fun e w' => e = .returned c ∧ K a1 true w') : JStep P ops (J2 i1 i2 K) i2 o a c := by
  refine ⟨fun listed w hJ hr => ?_⟩
  obtain ⟨hun, _⟩ := mem_ready.1 hr
  unfold J2 at hJ
  rw [getD_both' hun] at hJ
  obtain ⟨e1, e2, e3⟩ := h _ w hJ
  rw [if_pos e1, e2]
  refine e3.mono fun e w' ⟨he, hK⟩ => ⟨he, ?_⟩
  unfold J2
  rw [getD_set_at hun, getD_set_other h12]
  exact hK
/-- The same walk with the values known ahead. -/
def wpV (P : Program) (ops : Array Oper) (J : Array Bool → World → Prop) (vals : Nat → Value) : Nat → List Oper → Act → Prop
  | _, [], _ => True
  | i, o :: rest, a => JStep P ops J i o a (vals i) ∧ wpV P ops J vals (i + 1) rest (a.put o.dst (vals i))
theorem wpV_nil {J : Array Bool → World → Prop} {vals : Nat → Value} : wpV P ops J vals i [] a := trivial
theorem wpV_cons {J : Array Bool → World → Prop} {vals : Nat → Value} {rest : List Oper} {v : Value} (he : vals i = v) (h : JStep P ops J i o a v) (k : wpV P ops J vals (i + 1) rest (a.put o.dst v)) : wpV P ops J vals i (o :: rest) a := by
  subst he
  exact ⟨h, k⟩
theorem wpV_J {J : Array Bool → World → Prop} {vals : Nat → Value} : ∀ (rest : List Oper) (i : Nat) (a : Act), wpV P ops J vals i rest a → wpJ P ops J (fun b => b = fillG vals i rest a) i rest a
  | [], _, _, _ => rfl
  | _ :: rest, i, _, ⟨h, k⟩ => ⟨_, h, wpV_J rest (i + 1) _ k⟩
theorem wp_region_V {id : Nat} {a0 : Act} {w0 : World} (J : Array Bool → World → Prop) (vals : Nat → Value)
    (hm : P.follows .mixedOrders = true) (hok : regionOk ops = true)
    (h0 : J (Array.replicate ops.size false) w0.drew)
    (hwalk : wpV P ops J vals 0 ops.toList a0)
    (hfin : ∀ w, J (Array.replicate ops.size true) w → Q .normal (fillG vals 0 ops.toList a0) w) : (Code.region id ops true).wp P Q a0 w0 :=
  wp_region_J J hm hok h0 (wpV_J _ _ _ hwalk) fun _ w he hJ => he ▸ hfin w hJ
theorem J2.start {n : Nat} {w : World} (h : K false false w) : J2 i1 i2 K (Array.replicate n false) w := by
  unfold J2
  rw [getD_replicate_false', getD_replicate_false']
  exact h
theorem J2.done {n : Nat} {w : World} (h : J2 i1 i2 K (Array.replicate n true) w) (h1 : i1 < n) (h2 : i2 < n) : K true true w := by
  unfold J2 at h
  simp [h1, h2] at h
  exact h
end
end Go.Proofs.YtblbgalpkodibaaDoor
namespace Go.Proofs.YtblbgalpkodibaaDoor
open Go.RowKit

section
variable {P : Program} {ops : Array Oper} {Q : Exit → Act → World → Prop} {K : Bool → Bool → World → Prop} {i i1 i2 : Nat} {S : List Nat} {o : Oper} {a : Act}

structure J3 (i1 i2 : Nat) (S : List Nat) (K : Bool → Bool → World → Prop) (c : Array Bool) (w : World) : Prop where
  now : K (c.getD i1 false) (c.getD i2 false) w
  late : ∀ j ∈ S, c.getD j false = true → c.getD i1 false = true ∧ c.getD i2 false = true
theorem JUpon.imp {N N' : World → Prop} {v : Value} {r : Result Next} (h : JUpon P N v r) (k : ∀ w, N w → N' w) : JUpon P N' v r := by
  match r, h with
  | .ok (.value u) w', h => exact ⟨h.1, k _ h.2⟩
  | .ok .skip w', h => exact ⟨h.1, k _ h.2⟩
  | .ok (.enter f args) w', h => exact Calls.mono h fun e w'' ⟨he, hN⟩ => ⟨he, k _ hN⟩
theorem jup_val {N : World → Prop} {v : Value} {w : World} {r : Result Next} (hr : r = .ok (.value v) w) (h : N w) : JUpon P N v r := by
  rw [hr]
  exact ⟨rfl, h⟩
theorem jup_call {N : World → Prop} {v : Value} {w : World} {r : Result Next} {f : FuncId} {args : Array Value} (hr : r = .ok (.enter f args) w) (h : Calls P f args w fun e w' => e = .returned v ∧ N w') : JUpon P N v r := by
  rw [hr]
  exact h
theorem jup_op {N : World → Prop} {m : Sem Value} {v : Value} {w : World} {r : Sem Next} (hr : r = (do let x ← m; pure (.value x))) (hm : m.run P w = .ok v w) (h : N w) : JUpon P N v (r.run P w) := by
  rw [hr, Sem.run_bind, hm]
  exact ⟨rfl, h⟩
theorem j3early (h1 : i ≠ i1) (h2 : i ≠ i2) (hS : i ∉ S) {v : Value} (h : ∀ a1 a2 w, K a1 a2 w → Region.wanted o (yielded ops a.tmps) = true ∧ JUpon P (K a1 a2) v ((execOp a.eval o).run P w)) : JStep P ops (J3 i1 i2 S K) i o a v := by
  refine ⟨fun listed w hJ hr => ?_⟩
  obtain ⟨e1, e2⟩ := h _ _ w hJ.now
  rw [if_pos e1]
  refine e2.imp fun w' hK => ⟨?_, fun j hj hl => ?_⟩
  · rw [getD_set_other h1, getD_set_other h2]; exact hK
  · rw [getD_set_other (by rintro rfl; exact hS hj)] at hl
    rw [getD_set_other h1, getD_set_other h2]
    exact hJ.late j hj hl
theorem j3one (h12 : i1 ≠ i2) (hS : i1 ∉ S) {v : Value} (h : ∀ a2 w, K false a2 w → Region.wanted o (yielded ops a.tmps) = true ∧ JUpon P (K true a2) v ((execOp a.eval o).run P w)) : JStep P ops (J3 i1 i2 S K) i1 o a v := by
  refine ⟨fun listed w hJ hr => ?_⟩
  obtain ⟨hun, _⟩ := mem_ready.1 hr
  have hn := hJ.now
  rw [getD_both' hun] at hn
  obtain ⟨e1, e2⟩ := h _ w hn
  rw [if_pos e1]
  refine e2.imp fun w' hK => ⟨?_, fun j hj hl => ?_⟩
  · rw [getD_set_at hun, getD_set_other h12]; exact hK
  · rw [getD_set_other (by rintro rfl; exact hS hj)] at hl
    rw [getD_set_at hun, getD_set_other h12]
    exact ⟨rfl, (hJ.late j hj hl).2⟩
theorem j3two (h12 : i2 ≠ i1) (hS : i2 ∉ S) {v : Value} (h : ∀ a1 w, K a1 false w → Region.wanted o (yielded ops a.tmps) = true ∧ JUpon P (K a1 true) v ((execOp a.eval o).run P w)) : JStep P ops (J3 i1 i2 S K) i2 o a v := by
  refine ⟨fun listed w hJ hr => ?_⟩
  obtain ⟨hun, _⟩ := mem_ready.1 hr
  have hn := hJ.now
  rw [getD_both' hun] at hn
  obtain ⟨e1, e2⟩ := h _ w hn
  rw [if_pos e1]
  refine e2.imp fun w' hK => ⟨?_, fun j hj hl => ?_⟩
  · rw [getD_set_at hun, getD_set_other h12]; exact hK
  · rw [getD_set_other (by rintro rfl; exact hS hj)] at hl
    rw [getD_set_at hun, getD_set_other h12]
    exact ⟨(hJ.late j hj hl).1, rfl⟩
/-- Behind both. -/
theorem j3late (ho : ops[i]? = some o) (h1 : i ≠ i1) (h2 : i ≠ i2) (hw : (waitsOn o i1 = true ∧ waitsOn o i2 = true) ∨ ∃ m, m ∈ S ∧ waitsOn o m = true) {v : Value} (h : ∀ w, K true true w → Region.wanted o (yielded ops a.tmps) = true ∧ JUpon P (K true true) v ((execOp a.eval o).run P w)) : JStep P ops (J3 i1 i2 S K) i o a v := by
  refine ⟨fun listed w hJ hr => ?_⟩
  obtain ⟨hun, o', ho', hall⟩ := mem_ready.1 hr
  have : o' = o := Option.some.inj (ho'.symm.trans ho)
  subst this
  have got : ∀ m, waitsOn o' m = true → listed.getD m false = true := fun m hm => by
    obtain ⟨e, he, hb, hon⟩ := waitsOn_spec hm
    have := hall e he hb
    rw [hon] at this
    exact this
  have hb : listed.getD i1 false = true ∧ listed.getD i2 false = true := by
    rcases hw with ⟨w1, w2⟩ | ⟨m, hm, w1⟩
    · exact ⟨got _ w1, got _ w2⟩
    · exact hJ.late m hm (got _ w1)
  have hn := hJ.now
  rw [hb.1, hb.2] at hn
  obtain ⟨e1, e2⟩ := h w hn
  rw [if_pos e1]
  refine e2.imp fun w' hK => ⟨?_, fun j hj hl => ?_⟩
  · rw [getD_set_other h1, getD_set_other h2, hb.1, hb.2]; exact hK
  · rw [getD_set_other h1, getD_set_other h2]; exact hb
theorem j3val (h1 : i ≠ i1) (h2 : i ≠ i2) (hS : i ∉ S) (c : Value) (h : ∀ a1 a2 w, K a1 a2 w → Region.wanted o (yielded ops a.tmps) = true ∧ (execOp a.eval o).run P w = .ok (.value c) w) : JStep P ops (J3 i1 i2 S K) i o a c :=
  j3early h1 h2 hS fun a1 a2 w hK => ⟨(h a1 a2 w hK).1, jup_val (h a1 a2 w hK).2 hK⟩
theorem j3op (h1 : i ≠ i1) (h2 : i ≠ i2) (hS : i ∉ S) (m : Sem Value) (c : Value) (h : ∀ a1 a2 w, K a1 a2 w → Region.wanted o (yielded ops a.tmps) = true ∧ execOp a.eval o = (do let r ← m; pure (.value r)) ∧ m.run P w = .ok c w) : JStep P ops (J3 i1 i2 S K) i o a c :=
  j3early h1 h2 hS fun a1 a2 w hK => ⟨(h a1 a2 w hK).1, jup_op (h a1 a2 w hK).2.1 (h a1 a2 w hK).2.2 hK⟩
theorem j3oneC (h12 : i1 ≠ i2) (hS : i1 ∉ S) (f : FuncId) (args : Array Value) (c : Value) (h : ∀ a2 w, K false a2 w → Region.wanted o (yielded ops a.tmps) = true ∧ (execOp a.eval o).run P w = .ok (.enter f args) w ∧ Calls P f args w fun e w' => e = .returned c ∧ K true a2 w') : JStep P ops (J3 i1 i2 S K) i1 o a c :=
  j3one h12 hS fun a2 w hK => ⟨(h a2 w hK).1, jup_call (h a2 w hK).2.1 (h a2 w hK).2.2⟩
theorem j3twoC (h12 : i2 ≠ i1) (hS : i2 ∉ S) (f : FuncId) (args : Array Value) (c : Value) (h : ∀ a1 w, K a1 false w → Region.wanted o (yielded ops a.tmps) = true ∧ (execOp a.eval o).run P w = .ok (.enter f args) w ∧ Calls P f args w fun e w' => e = .returned c ∧ K a1 true w') : JStep P ops (J3 i1 i2 S K) i2 o a c :=
  j3two h12 hS fun a1 w hK => ⟨(h a1 w hK).1, jup_call (h a1 w hK).2.1 (h a1 w hK).2.2⟩
theorem j3lateV (ho : ops[i]? = some o) (h1 : i ≠ i1) (h2 : i ≠ i2) (hw : (waitsOn o i1 = true ∧ waitsOn o i2 = true) ∨ ∃ m, m ∈ S ∧ waitsOn o m = true) (c : Value) (h : ∀ w, K true true w → Region.wanted o (yielded ops a.tmps) = true ∧ (execOp a.eval o).run P w = .ok (.value c) w) : JStep P ops (J3 i1 i2 S K) i o a c :=
  j3late ho h1 h2 hw fun w hK => ⟨(h w hK).1, jup_val (h w hK).2 hK⟩
theorem j3lateO (ho : ops[i]? = some o) (h1 : i ≠ i1) (h2 : i ≠ i2) (hw : (waitsOn o i1 = true ∧ waitsOn o i2 = true) ∨ ∃ m, m ∈ S ∧ waitsOn o m = true) (m : Sem Value) (c : Value) (h : ∀ w, K true true w → Region.wanted o (yielded ops a.tmps) = true ∧ execOp a.eval o = (do let r ← m; pure (.value r)) ∧ m.run P w = .ok c w) : JStep P ops (J3 i1 i2 S K) i o a c :=
  j3late ho h1 h2 hw fun w hK => ⟨(h w hK).1, jup_op (h w hK).2.1 (h w hK).2.2 hK⟩
theorem j3lateC (ho : ops[i]? = some o) (h1 : i ≠ i1) (h2 : i ≠ i2) (hw : (waitsOn o i1 = true ∧ waitsOn o i2 = true) ∨ ∃ m, m ∈ S ∧ waitsOn o m = true) (f : FuncId) (args : Array Value) (c : Value) (h : ∀ w, K true true w → Region.wanted o (yielded ops a.tmps) = true ∧ (execOp a.eval o).run P w = .ok (.enter f args) w ∧ Calls P f args w fun e w' => e = .returned c ∧ K true true w') : JStep P ops (J3 i1 i2 S K) i o a c :=
  j3late ho h1 h2 hw fun w hK => ⟨(h w hK).1, jup_call (h w hK).2.1 (h w hK).2.2⟩
theorem J3.start {n : Nat} {w : World} (h : K false false w) : J3 i1 i2 S K (Array.replicate n false) w :=
  ⟨by rw [getD_replicate_false', getD_replicate_false']; exact h, fun j _ hl => by rw [getD_replicate_false'] at hl; cases hl⟩
theorem J3.done {n : Nat} {w : World} (h : J3 i1 i2 S K (Array.replicate n true) w) (h1 : i1 < n) (h2 : i2 < n) : K true true w := by
  have := h.now
  simp [h1, h2] at this
  exact this
end
end Go.Proofs.YtblbgalpkodibaaDoor
namespace Go.Proofs.YtblbgalpkodibaaDoor
open Go.RowKit

section
variable {P : Program} {ops : Array Oper} {Q : Exit → Act → World → Prop} {K : Bool → World → Prop} {i i1 : Nat} {o : Oper} {a : Act}

structure J1 (i1 : Nat) (K : Bool → World → Prop) (c : Array Bool) (w : World) : Prop where
  now : K (c.getD i1 false) w
theorem j1early (h1 : i ≠ i1) {v : Value} (h : ∀ a1 w, K a1 w → Region.wanted o (yielded ops a.tmps) = true ∧ JUpon P (K a1) v ((execOp a.eval o).run P w)) : JStep P ops (J1 i1 K) i o a v := by
  refine ⟨fun listed w hJ hr => ?_⟩
  obtain ⟨e1, e2⟩ := h _ w hJ.now
  rw [if_pos e1]
  refine e2.imp fun w' hK => ⟨?_⟩
  rw [getD_set_other h1]; exact hK
theorem j1val (h1 : i ≠ i1) (c : Value) (h : ∀ a1 w, K a1 w → Region.wanted o (yielded ops a.tmps) = true ∧ (execOp a.eval o).run P w = .ok (.value c) w) : JStep P ops (J1 i1 K) i o a c :=
  j1early h1 fun a1 w hK => ⟨(h a1 w hK).1, jup_val (h a1 w hK).2 hK⟩
theorem j1op (h1 : i ≠ i1) (m : Sem Value) (c : Value) (h : ∀ a1 w, K a1 w → Region.wanted o (yielded ops a.tmps) = true ∧ execOp a.eval o = (do let r ← m; pure (.value r)) ∧ m.run P w = .ok c w) : JStep P ops (J1 i1 K) i o a c :=
  j1early h1 fun a1 w hK => ⟨(h a1 w hK).1, jup_op (h a1 w hK).2.1 (h a1 w hK).2.2 hK⟩
theorem j1call (h1 : i ≠ i1) (f : FuncId) (args : Array Value) (c : Value) (h : ∀ a1 w, K a1 w → Region.wanted o (yielded ops a.tmps) = true ∧ (execOp a.eval o).run P w = .ok (.enter f args) w ∧ Calls P f args w fun e w' => e = .returned c ∧ K a1 w') : JStep P ops (J1 i1 K) i o a c :=
  j1early h1 fun a1 w hK => ⟨(h a1 w hK).1, jup_call (h a1 w hK).2.1 (h a1 w hK).2.2⟩
/-- The store. -/
theorem j1store (m : Sem Unit) (h : ∀ w, K false w → Region.wanted o (yielded ops a.tmps) = true ∧ execOp a.eval o = (do m; pure Next.skip) ∧ ∃ w', m.run P w = .ok () w' ∧ K true w') : JStep P ops (J1 i1 K) i1 o a undef := by
  refine ⟨fun listed w hJ hr => ?_⟩
  obtain ⟨hun, _⟩ := mem_ready.1 hr
  have hn := hJ.now
  rw [getD_both' hun] at hn
  obtain ⟨e1, e2, w', e3, hK⟩ := h w hn
  rw [if_pos e1, e2, Sem.run_bind, e3]
  exact ⟨rfl, ⟨by rw [getD_set_at hun]; exact hK⟩⟩
theorem J1.start {n : Nat} {w : World} (h : K false w) : J1 i1 K (Array.replicate n false) w := ⟨by rw [getD_replicate_false']; exact h⟩
theorem J1.done {n : Nat} {w : World} (h : J1 i1 K (Array.replicate n true) w) (h1 : i1 < n) : K true w := by
  have := h.now
  simp [h1] at this
  exact this
end
end Go.Proofs.YtblbgalpkodibaaDoor
namespace Go.Proofs.YtblbgalpkodibaaDoor
open Go.RowKit

section
variable {P : Program} {ops : Array Oper} {Q : Exit → Act → World → Prop} {J : World → Prop} {M : World → World → Prop} {Φ : Nat → Value → World → Prop} {vals : Nat → Value} {i : Nat} {o : Oper} {a : Act}

structure OStep (P : Program) (ops : Array Oper) (J : World → Prop) (M : World → World → Prop) (Φ : Nat → Value → World → Prop) (vals : Nat → Value) (i : Nat) (o : Oper) (a : Act) : Prop where
  out : ∀ w, J w → (∀ k, k < i → Φ k (vals k) w) →
    if Region.wanted o (yielded ops a.tmps) then GUpon P (fun v w' => J w' ∧ M w w' ∧ Φ i v w') ((execOp a.eval o).run P w) else Φ i undef w
def wpO (P : Program) (ops : Array Oper) (J : World → Prop) (M : World → World → Prop) (Φ : Nat → Value → World → Prop) (vals : Nat → Value) : Nat → List Oper → Act → Prop
  | _, [], _ => True
  | i, o :: rest, a => OStep P ops J M Φ vals i o a ∧ wpO P ops J M Φ vals (i + 1) rest (a.put o.dst (vals i))
theorem wpO_nil : wpO P ops J M Φ vals i [] a := trivial
theorem wpO_cons {rest : List Oper} (h : OStep P ops J M Φ vals i o a) (k : wpO P ops J M Φ vals (i + 1) rest (a.put o.dst (vals i))) :
    wpO P ops J M Φ vals i (o :: rest) a := ⟨h, k⟩
theorem wpO_at (a0 : Act) : ∀ (rest : List Oper) (i : Nat), (∀ j, rest[j]? = ops[i + j]?) → wpO P ops J M Φ vals i rest (prefixAct ops vals a0 i) →
    ∀ j o, i ≤ j → ops[j]? = some o → OStep P ops J M Φ vals j o (prefixAct ops vals a0 j) := by
  intro rest
  induction rest with
  | nil =>
    intro i hr _ j o hij ho
    have := hr (j - i)
    rw [show i + (j - i) = j by omega, ho] at this
    simp at this
  | cons o rest ih =>
    intro i hr h j o' hij ho'
    have ho : ops[i]? = some o := by simpa using (hr 0).symm
    by_cases hj : j = i
    · subst hj
      have : o' = o := Option.some.inj (ho'.symm.trans ho)
      subst this
      exact h.1
    · refine ih (i + 1) (fun j => by have := hr (j + 1); rw [show i + (j + 1) = i + 1 + j by omega] at this; simpa using this) ?_ j o' (by omega) ho'
      have h2 := h.2
      simp only [prefixAct, ho, Option.bind_some]
      exact h2
theorem oper_wp_of {K : Act → World → Prop} {N : Value → World → Prop} {w : World} (h : GUpon P N ((execOp a.eval o).run P w)) (k : ∀ v w', N v w' → K (a.put o.dst v) w') : o.wp P a w K Q := by
  unfold Oper.wp
  generalize (execOp a.eval o).run P w = r at h ⊢
  cases r with
  | ok n w' =>
    cases n <;> simp only [GUpon] at h <;> simp only [Oper.upon]
    case value u => exact k u w' h
    case skip => exact k undef w' h
    case enter f args =>
      refine Calls.mono h fun e w'' ⟨u, he, hn⟩ => ?_
      subst he
      exact k u w'' hn
  | halt x w' => simp only [GUpon] at h
/-- The region in the order of the text. -/
theorem wp_list_O {id : Nat} {a0 : Act} {w0 : World} (J : World → Prop) (M : World → World → Prop) (Φ : Nat → Value → World → Prop)
    (h0 : J w0) (hM : ∀ k v w w', Φ k v w → M w w' → Φ k v w') (hMr : ∀ w, M w w)
    (hwalk : ∀ vals, wpO P ops J M Φ vals 0 ops.toList a0)
    (hfin : ∀ vals w, J w → (∀ k, k < ops.size → Φ k (vals k) w) → Q .normal (fillG vals 0 ops.toList a0) w) : (Code.region id ops false).wp P Q a0 w0 := by
  refine wp_region_list ?_
  have key : ∀ (n i : Nat), i + n = ops.size → ∀ (vals : Nat → Value) (w : World), J w → (∀ k, k < i → Φ k (vals k) w) → wpList P ops Q (ops.toList.drop i) (prefixAct ops vals a0 i) w := by
    intro n
    induction n with
    | zero =>
      intro i hi vals w hJ hΦ
      have hi' : i = ops.size := by omega
      subst hi'
      rw [List.drop_of_length_le (by simp)]
      refine wpList_nil ?_
      have h1 := fillG_prefix (ops := ops) vals a0 ops.toList 0 (fun j => by simp)
      simp only [prefixAct, Nat.zero_add, Array.length_toList] at h1
      rw [← h1]
      exact hfin vals w hJ hΦ
    | succ n ih =>
      intro i hi vals w hJ hΦ
      have hlt : i < ops.size := by omega
      have ho : ops[i]? = some ops[i] := Array.getElem?_eq_getElem hlt
      have hd : ops.toList.drop i = ops[i] :: ops.toList.drop (i + 1) := by
        rw [List.drop_eq_getElem_cons (by simpa using hlt)]; simp
      rw [hd]
      have hs := (wpO_at a0 ops.toList 0 (fun j => by simp) (hwalk vals) i ops[i] (Nat.zero_le _) ho).out w hJ hΦ
      have next : ∀ (u : Value) (w' : World), J w' → M w w' → Φ i u w' → wpList P ops Q (ops.toList.drop (i + 1)) ((prefixAct ops vals a0 i).put ops[i].dst u) w' := by
        intro u w' hJ' hm hu
        have h2 := ih (i + 1) (by omega) (fun k => if k = i then u else vals k) w' hJ' (fun k hk => by
          by_cases hki : k = i
          · subst hki; simpa using hu
          · simp only [hki, if_false]; exact hM k _ w w' (hΦ k (by omega)) hm)
        have h3 : prefixAct ops (fun k => if k = i then u else vals k) a0 (i + 1) = (prefixAct ops vals a0 i).put ops[i].dst u := by
          simp only [prefixAct, ho, Option.bind_some, if_true]
          rw [show prefixAct ops (fun k => if k = i then u else vals k) a0 i = prefixAct ops vals a0 i from prefixAct_congr i (fun k hk _ => by simp [show k ≠ i by omega])]
        rw [h3] at h2
        exact h2
      refine wpList_step fun K hK => ?_
      split
      · rename_i hw
        rw [if_pos hw] at hs
        exact oper_wp_of hs fun v w' ⟨h1, h2, h3⟩ => hK _ _ (next v w' h1 h2 h3)
      · rename_i hw
        rw [if_neg hw] at hs
        exact hK _ _ (next undef w hJ (hMr w) hs)
  have := key ops.size 0 (by omega) (fun _ => undef) w0 h0 (fun k hk => by omega)
  simpa [prefixAct] using this
theorem some_t (b : Bool) : (some b == some true) = b := by cases b <;> rfl
theorem some_f (b : Bool) : (some b == some false) = !b := by cases b <;> rfl
/-! ### steps -/
theorem oval (c : Value) (hM : ∀ w, M w w)
    (h : ∀ w, J w → (∀ k, k < i → Φ k (vals k) w) → Region.wanted o (yielded ops a.tmps) = true ∧ (execOp a.eval o).run P w = .ok (.value c) w ∧ Φ i c w) : OStep P ops J M Φ vals i o a := by
  refine ⟨fun w hJ hd => ?_⟩
  obtain ⟨h1, h2, h3⟩ := h w hJ hd
  rw [if_pos h1, h2]
  exact ⟨hJ, hM w, h3⟩
theorem ocall (f : FuncId) (args : Array Value)
    (h : ∀ w, J w → (∀ k, k < i → Φ k (vals k) w) → Region.wanted o (yielded ops a.tmps) = true ∧ (execOp a.eval o).run P w = .ok (.enter f args) w ∧
      Calls P f args w fun e w'' => ∃ u, e = .returned u ∧ J w'' ∧ M w w'' ∧ Φ i u w'') : OStep P ops J M Φ vals i o a := by
  refine ⟨fun w hJ hd => ?_⟩
  obtain ⟨h1, h2, h3⟩ := h w hJ hd
  rw [if_pos h1, h2]
  exact h3
theorem oskip
    (h : ∀ w, J w → (∀ k, k < i → Φ k (vals k) w) → Region.wanted o (yielded ops a.tmps) = false ∧ Φ i undef w) : OStep P ops J M Φ vals i o a := by
  refine ⟨fun w hJ hd => ?_⟩
  obtain ⟨h1, h2⟩ := h w hJ hd
  rw [if_neg (by simp [h1])]
  exact h2
theorem oop (m : Sem Value) (c : Value) (hM : ∀ w, M w w)
    (h : ∀ w, J w → (∀ k, k < i → Φ k (vals k) w) → Region.wanted o (yielded ops a.tmps) = true ∧ execOp a.eval o = (do let r ← m; pure (.value r)) ∧
      m.run P w = .ok c w ∧ Φ i c w) : OStep P ops J M Φ vals i o a := by
  refine ⟨fun w hJ hd => ?_⟩
  obtain ⟨h1, h2, h3, h4⟩ := h w hJ hd
  rw [if_pos h1, h2, run_val h3]
  exact ⟨hJ, hM w, h4⟩
theorem omake
    (h : ∀ w, J w → (∀ k, k < i → Φ k (vals k) w) → Region.wanted o (yielded ops a.tmps) = true ∧ ∃ c w', (execOp a.eval o).run P w = .ok (.value c) w' ∧ J w' ∧ M w w' ∧ Φ i c w') : OStep P ops J M Φ vals i o a := by
  refine ⟨fun w hJ hd => ?_⟩
  obtain ⟨h1, c, w', h2, h3⟩ := h w hJ hd
  rw [if_pos h1, h2]
  exact h3
theorem ounit
    (h : ∀ w, J w → (∀ k, k < i → Φ k (vals k) w) → Region.wanted o (yielded ops a.tmps) = true ∧ ∃ w', (execOp a.eval o).run P w = .ok .skip w' ∧ J w' ∧ M w w' ∧ Φ i undef w') : OStep P ops J M Φ vals i o a := by
  refine ⟨fun w hJ hd => ?_⟩
  obtain ⟨h1, w', h2, h3⟩ := h w hJ hd
  rw [if_pos h1, h2]
  exact h3
/-- A value behind a guard that hangs on B. -/
theorem oguard (B : Bool) (c : Value) (hM : ∀ w, M w w)
    (h : ∀ w, J w → (∀ k, k < i → Φ k (vals k) w) → Region.wanted o (yielded ops a.tmps) = B ∧ (B = true → (execOp a.eval o).run P w = .ok (.value c) w ∧ Φ i c w) ∧ (B = false → Φ i undef w)) : OStep P ops J M Φ vals i o a := by
  refine ⟨fun w hJ hd => ?_⟩
  obtain ⟨h1, h2, h3⟩ := h w hJ hd
  cases B with
  | true => rw [if_pos h1, (h2 rfl).1]; exact ⟨hJ, hM w, (h2 rfl).2⟩
  | false => rw [if_neg (by simp [h1])]; exact h3 rfl
theorem oguardop (B : Bool) (m : Sem Value) (c : Value) (hM : ∀ w, M w w)
    (h : ∀ w, J w → (∀ k, k < i → Φ k (vals k) w) → Region.wanted o (yielded ops a.tmps) = B ∧ (B = true → execOp a.eval o = (do let r ← m; pure (.value r)) ∧ m.run P w = .ok c w ∧ Φ i c w) ∧ (B = false → Φ i undef w)) : OStep P ops J M Φ vals i o a := by
  refine ⟨fun w hJ hd => ?_⟩
  obtain ⟨h1, h2, h3⟩ := h w hJ hd
  cases B with
  | true =>
    obtain ⟨q1, q2, q3⟩ := h2 rfl
    rw [if_pos h1, q1, run_val q2]; exact ⟨hJ, hM w, q3⟩
  | false => rw [if_neg (by simp [h1])]; exact h3 rfl
end
end Go.Proofs.YtblbgalpkodibaaDoor
namespace Go.Proofs.YtblbgalpkodibaaDoor
open Go.RowKit

section
variable {P : Program} {ops : Array Oper} {Q : Exit → Act → World → Prop}
structure XStep (P : Program) (ops : Array Oper) (e : Nat) (J : Bool → World → Prop) (M : Nat → World → World → Prop) (Φ : Nat → Value → World → Prop) (vals : Nat → Value) (i : Nat) (o : Oper) (a : Act) : Prop where
  out : ∀ fl w, (i = e → fl = false) → (waitsOn o e = true → fl = true) → J fl w → (∀ k, k < ops.size → waitsOn o k = true → Φ k (vals k) w) →
    if Region.wanted o (yielded ops a.tmps) then GUpon P (fun v w' => J (fl || decide (i = e)) w' ∧ M i w w' ∧ Φ i v w') ((execOp a.eval o).run P w) else J (fl || decide (i = e)) w ∧ Φ i undef w
def wpX (P : Program) (ops : Array Oper) (e : Nat) (J : Bool → World → Prop) (M : Nat → World → World → Prop) (Φ : Nat → Value → World → Prop) (vals : Nat → Value) : Nat → List Oper → Act → Prop
  | _, [], _ => True
  | i, o :: rest, a => XStep P ops e J M Φ vals i o a ∧ wpX P ops e J M Φ vals (i + 1) rest (a.put o.dst (vals i))
theorem wpX_nil {J : Bool → World → Prop} {M : Nat → World → World → Prop} {Φ : Nat → Value → World → Prop} {e : Nat} {vals : Nat → Value} {i : Nat} {a : Act} : wpX P ops e J M Φ vals i [] a := trivial
theorem wpX_cons {J : Bool → World → Prop} {M : Nat → World → World → Prop} {Φ : Nat → Value → World → Prop} {e : Nat} {vals : Nat → Value} {i : Nat} {a : Act} {o : Oper} {rest : List Oper} (h : XStep P ops e J M Φ vals i o a) (k : wpX P ops e J M Φ vals (i + 1) rest (a.put o.dst (vals i))) :
    wpX P ops e J M Φ vals i (o :: rest) a := ⟨h, k⟩
theorem wpX_take {J : Bool → World → Prop} {M : Nat → World → World → Prop} {Φ : Nat → Value → World → Prop} {e : Nat} {n : Nat} (a0 : Act) (hn : ops.size = n + 1) (vals : Nat → Value) (h : wpX P ops e J M Φ vals 0 (ops.toList.take n) a0)
    {i : Nat} {o : Oper} (hi : i < n) (ho : ops[i]? = some o) : XStep P ops e J M Φ vals i o (prefixAct ops vals a0 i) := by
  have key : ∀ (rest : List Oper) (i : Nat), (∀ j, j < rest.length → rest[j]? = ops[i + j]?) → wpX P ops e J M Φ vals i rest (prefixAct ops vals a0 i) → ∀ j o, i ≤ j → j < i + rest.length → ops[j]? = some o → XStep P ops e J M Φ vals j o (prefixAct ops vals a0 j) := by
    intro rest
    induction rest with
    | nil => intro i _ _ j o h1 h2; simp at h2; omega
    | cons o rest ih =>
      intro i hr h j o' hij hjl ho'
      have ho : ops[i]? = some o := by simpa using (hr 0 (by simp)).symm
      by_cases hj : j = i
      · subst hj
        have : o' = o := Option.some.inj (ho'.symm.trans ho)
        subst this
        exact h.1
      · refine ih (i + 1) (fun j hj => by have := hr (j + 1) (by simp; omega); rw [show i + (j + 1) = i + 1 + j by omega] at this; simpa using this) ?_ j o' (by omega) (by simp at hjl; omega) ho'
        have h2 := h.2
        simp only [prefixAct, ho, Option.bind_some]
        exact h2
  refine key _ 0 (fun j hj => ?_) h i o (Nat.zero_le _) (by simp; omega) ho
  simp only [List.length_take, Array.length_toList] at hj
  rw [List.getElem?_take, if_pos (by omega)]
  simp

theorem wp_region_X {id n : Nat} {a0 : Act} {w0 : World} {ol : Oper} (e : Nat) (J : Bool → World → Prop) (M : Nat → World → World → Prop) (Φ : Nat → Value → World → Prop)
    (hm : P.follows .mixedOrders = true) (hok : regionOk ops = true) (h0 : J false w0.drew)
    (hM : ∀ i k v w w', k ≠ i → Φ k v w → M i w w' → Φ k v w') (hen : e < n)
    (hn : ops.size = n + 1) (hol : ops[n]? = some ol) (hgl : ol.guard = none) (hlead : leadsTo ops = true)
    (hwalk : ∀ vals, wpX P ops e J M Φ vals 0 (ops.toList.take n) a0)
    (hfin : ∀ vals w, J true w → (∀ k, k < n → Φ k (vals k) w) → ol.wp P (prefixAct ops vals a0 n) w (Q .normal) Q) : (Code.region id ops true).wp P Q a0 w0 := by
  refine wp_region_any hm ?_
  let I : Array Bool → Act → World → Prop := fun listed a w =>
    (listed.getD n false = false ∧ listed.size = ops.size ∧ (∀ j oj, ops[j]? = some oj → listed.getD j false = true → ∀ e ∈ oj.after, Region.binds .any e = true → listed.getD e.on false = true) ∧
    a.defers = a0.defers ∧ a.tmps.size = a0.tmps.size ∧ J (listed.getD e false) w ∧ ∃ vals : Nat → Value,
    (∀ t, t < a0.tmps.size → (∀ k ok, ops[k]? = some ok → ok.dst = some t → a.tmps[t]? = if listed.getD k false then some (vals k) else a0.tmps[t]?) ∧
      ((∀ k : Nat, (ops[k]?).bind (·.dst) ≠ some t) → a.tmps[t]? = a0.tmps[t]?)) ∧ (∀ k, listed.getD k false = true → Φ k (vals k) w)) ∨ (Region.ready .any ops listed = [] ∧ Q .normal a w)
  have uniq : ∀ {t k k' : Nat} {ok : Oper}, ops[k]? = some ok → ok.dst = some t → (ops[k']?).bind (·.dst) = some t → k' = k := by
    intro t k k' ok hk hd hb
    cases hk' : ops[k']? with
    | none => rw [hk'] at hb; cases hb
    | some ok' =>
      rw [hk'] at hb
      by_cases e : k' = k
      · exact e
      · exact absurd hb ((regionOk_at hok hk').dst k ok t (fun x => e x.symm) hk hd)
  refine wpAny_inv I ?_ ?_ ops.size _ _ _ ?_ ?_
  · intro listed a w i hI hi
    rcases hI with hI | ⟨hr, _⟩
    case inr => rw [hr] at hi; cases hi
    obtain ⟨hln, hsz, hcl, hdf, hts, hJ, vals, htm, hΦ⟩ := hI
    obtain ⟨hun, o, ho, hall⟩ := mem_ready.1 hi
    have hilt := ready_lt hi
    by_cases hin : i = n
    case pos =>
      subst hin
      obtain rfl : o = ol := Option.some.inj (ho.symm.trans hol)
      -- all others have come up
      have hothers : ∀ d k, k + d = i → k < i → listed.getD k false = true := by
        intro d
        induction d using Nat.strongRecOn with
        | _ d ih =>
          intro k hkd hk
          obtain ⟨j, oj, hkj, hj, hw⟩ := leadsTo_at hlead (k := k) (by omega)
          obtain ⟨e, he, hb, hon⟩ := waitsOn_spec hw
          have hjl : j < ops.size := (Array.getElem?_eq_some_iff.1 hj).1
          by_cases hji : j = i
          · subst hji
            have : oj = o := Option.some.inj (hj.symm.trans ho)
            subst this
            have := hall e he hb
            rwa [hon] at this
          · have := hcl j oj hj (ih (i - j) (by omega) j (by omega) (by omega)) e he hb
            rwa [hon] at this
      have hact : a = prefixAct ops vals a0 i := by
        have h1 : a.defers = (prefixAct ops vals a0 i).defers := by rw [prefixAct_defers, hdf]
        have h2 : a.tmps = (prefixAct ops vals a0 i).tmps := by
          apply Array.ext_getElem?
          intro t
          by_cases ht : t < a0.tmps.size
          · by_cases hw : ∀ k : Nat, (ops[k]?).bind (·.dst) ≠ some t
            · rw [(htm t ht).2 hw, prefixAct_none vals a0 _ t hw]
            · have hw' : ∃ k : Nat, (ops[k]?).bind (·.dst) = some t := Classical.byContradiction fun hc => hw fun k hk => hc ⟨k, hk⟩
              obtain ⟨k, hk⟩ := hw'
              cases hok' : ops[k]? with
              | none => rw [hok'] at hk; cases hk
              | some ok =>
                have hd : ok.dst = some t := by rw [hok'] at hk; exact hk
                have hkl : k < ops.size := (Array.getElem?_eq_some_iff.1 hok').1
                rw [(htm t ht).1 k ok hok' hd, prefixAct_at vals a0 _ t k hk (fun j hj => uniq hok' hd hj) ht]
                by_cases hki : k = i
                · subst hki; simp [hln]
                · rw [hothers (i - k) k (by omega) (by omega)]
                  simp [show k < i by omega]
          · rw [Array.getElem?_eq_none (by omega), Array.getElem?_eq_none (by rw [prefixAct_size]; omega)]
        cases a; cases h : prefixAct ops vals a0 i
        simp_all
      have hf := hfin vals w (by rw [← hothers (i - e) e (by omega) (by omega)]; exact hJ) (fun k hk => hΦ k (hothers (i - k) k (by omega) hk))
      have hempty : Region.ready .any ops (listed.setIfInBounds i true) = [] := by
        apply List.eq_nil_iff_forall_not_mem.2
        intro j hj
        obtain ⟨h1, _⟩ := mem_ready.1 hj
        have hjl := ready_lt hj
        by_cases hji : i = j
        · subst hji
          simp [show i < listed.size by omega] at h1
        · have h2 := getD_both' h1
          rw [getD_set_ne false hji, hothers (i - j) j (by omega) (by omega)] at h2
          cases h2
      unfold wpOp
      simp only [ho]
      have hw : Region.wanted o (yielded ops a.tmps) = true := by simp [Region.wanted, hgl]
      rw [if_pos hw]
      refine .inl ?_
      rw [hact]
      unfold Oper.wp at hf ⊢
      generalize (execOp (prefixAct ops vals a0 i).eval o).run P w = r at hf ⊢
      cases r with
      | ok nx w' =>
        cases nx <;> simp only [Oper.upon] at hf ⊢
        all_goals first
          | exact .inr ⟨hempty, hf⟩
          | exact hf.mono (fun e w'' h => by cases e <;> first | exact .inr ⟨hempty, h⟩ | exact h)
          | exact hf.mono (fun v w'' h => .inr ⟨hempty, h⟩)
          | exact hf
      | halt x w' => cases x <;> simp only [Oper.upon] at hf ⊢ <;> first | exact hf | exact hf.elim
    have hO := regionOk_at hok ho
    have hslot : ∀ t : Nat, t ∈ o.looksAt ops → a.tmps[t]? = (prefixAct ops vals a0 i).tmps[t]? := by
      intro t ht
      by_cases hts0 : t < a0.tmps.size
      · exact show a.tmps[t]? = (prefixAct ops vals a0 i).tmps[t]? from by
          by_cases hw : ∀ k : Nat, (ops[k]?).bind (·.dst) ≠ some t
          · rw [(htm t hts0).2 hw, prefixAct_none vals a0 i t hw]
          · have hw' : ∃ k : Nat, (ops[k]?).bind (·.dst) = some t := Classical.byContradiction fun hc => hw fun k hk => hc ⟨k, hk⟩
            obtain ⟨k, hk⟩ := hw'
            cases hok' : ops[k]? with
            | none => rw [hok'] at hk; cases hk
            | some ok =>
              have hd : ok.dst = some t := by rw [hok'] at hk; exact hk
              rw [(htm t hts0).1 k ok hok' hd, prefixAct_at vals a0 i t k hk (fun j hj => uniq hok' hd hj) hts0]
              by_cases hki : k = i
              · subst hki
                have : listed.getD k false = false := getD_both' hun
                simp [this]
              · have hl := hO.look k ok t hki hok' hd ht
                by_cases hlt : k < i
                · rw [if_pos hlt] at hl
                  obtain ⟨e, he, hb, hon⟩ := waitsOn_spec hl
                  have := hall e he hb
                  rw [hon] at this
                  simp [this, hlt]
                · rw [if_neg hlt] at hl
                  obtain ⟨e, he, hb, hon⟩ := waitsOn_spec hl
                  have hnl : listed.getD k false = false := by
                    cases hc : listed.getD k false with
                    | false => rfl
                    | true =>
                      have := hcl k ok hok' hc e he hb
                      rw [hon, getD_both' hun] at this
                      cases this
                  simp [hnl, hlt]
      · have h1 : a.tmps[t]? = none := Array.getElem?_eq_none (by omega)
        have h2 : (prefixAct ops vals a0 i).tmps[t]? = none := Array.getElem?_eq_none (by rw [prefixAct_size]; omega)
        rw [h1, h2]
    have hexec : execOp a.eval o = execOp (prefixAct ops vals a0 i).eval o := by
      refine execOp_congr o hO.sel fun x hx => ?_
      cases x with
      | tmp t =>
        show a.tmps.getD t undef = (prefixAct ops vals a0 i).tmps.getD t undef
        rw [Array.getD_eq_getD_getElem?, Array.getD_eq_getD_getElem?, hslot t ?_]
        unfold Oper.looksAt
        refine List.mem_append_left _ ?_
        exact List.mem_filterMap.2 ⟨.tmp t, by simpa using hx, rfl⟩
      | _ => rfl
    have hwant : Region.wanted o (yielded ops a.tmps) = Region.wanted o (yielded ops (prefixAct ops vals a0 i).tmps) := by
      unfold Region.wanted
      cases hg : o.guard with
      | none => rfl
      | some gw =>
        obtain ⟨g, want⟩ := gw
        obtain ⟨d, hd⟩ := hO.gd g want hg
        have hdl : d ∈ o.looksAt ops := by
          unfold Oper.looksAt
          refine List.mem_append_right _ ?_
          simp [hg, hd]
        have := hslot d hdl
        simp [yielded, hd, this]
    have hJS : ∀ w', J (listed.getD e false || decide (i = e)) w' → J ((listed.setIfInBounds i true).getD e false) w' := by
      intro w' h
      by_cases hie : i = e
      · subst hie
        rw [show (listed.setIfInBounds i true).getD i false = true by simp [show i < listed.size by omega]]
        simpa using h
      · rw [getD_set_ne false hie]
        simpa [hie] using h
    have hne : ∀ k, listed.getD k false = true → k ≠ i := by
      intro k hk hki
      subst hki
      rw [getD_both' hun] at hk
      cases hk
    have hkeep : ∀ (v : Value) (w' : World), J (listed.getD e false || decide (i = e)) w' → (∀ k, listed.getD k false = true → Φ k (vals k) w') → Φ i v w' → I (listed.setIfInBounds i true) (a.put o.dst v) w' := by
      intro v w' hJ' hΦ' hv
      have hli : listed.getD i false = false := getD_both' hun
      refine .inl ⟨by rw [getD_set_ne false hin]; exact hln, by simp [hsz], ?_, ?_, by rw [Act.put_size]; exact hts, hJS w' hJ', fun k => if k = i then v else vals k, ?_, ?_⟩
      · intro j oj hj hl e he hb
        by_cases hij : i = j
        · subst hij
          have : oj = o := Option.some.inj (hj.symm.trans ho)
          subst this
          exact getD_set_true (hall e he hb)
        · rw [getD_set_ne false hij] at hl
          exact getD_set_true (hcl j oj hj hl e he hb)
      · cases o.dst <;> simp [Act.put, hdf]
      · intro t ht
        refine ⟨fun k ok hk hd => ?_, fun hw => ?_⟩
        · rw [Act.put_getElem]
          by_cases hki : k = i
          · subst hki
            have : ok = o := Option.some.inj (hk.symm.trans ho)
            subst this
            have hs : (listed.setIfInBounds k true).getD k false = true := by
              simp [show k < listed.size by omega]
            simp [hd, hts, ht, hs]
          · have hne : ¬ (o.dst = some t ∧ t < a.tmps.size) := fun hc => hO.dst k ok t hki hk hd hc.1
            rw [if_neg hne, (htm t ht).1 k ok hk hd, getD_set_ne false (fun x => hki x.symm)]
            simp only [if_neg hki]
        · rw [Act.put_getElem]
          have hne : ¬ (o.dst = some t ∧ t < a.tmps.size) := fun hc => hw i (by simp [ho, hc.1])
          rw [if_neg hne]
          exact (htm t ht).2 hw
      · intro k hk
        by_cases hki : k = i
        · subst hki; simpa using hv
        · rw [getD_set_ne false (fun x => hki x.symm)] at hk
          simpa [hki] using hΦ' k hk
    have hs := (wpX_take a0 hn vals (hwalk vals) (by omega) ho).out (listed.getD e false) w (fun h => by subst h; exact getD_both' hun) (fun hk => by
      obtain ⟨e', he, hb, hon⟩ := waitsOn_spec hk
      have := hall e' he hb
      rwa [hon] at this) hJ (fun k _ hk => by
      obtain ⟨e, he, hb, hon⟩ := waitsOn_spec hk
      have := hall e he hb
      rw [hon] at this
      exact hΦ k this)
    unfold wpOp
    simp only [ho]
    rw [hwant]
    split
    · rename_i hwn
      rw [if_pos hwn, ← hexec] at hs
      refine .inl ?_
      unfold Oper.wp
      generalize (execOp a.eval o).run P w = r at hs ⊢
      cases r with
      | ok n w' =>
        cases n <;> simp only [GUpon] at hs <;> simp only [Oper.upon]
        case value u => exact hkeep u w' hs.1 (fun k hk => hM i k _ w w' (hne k hk) (hΦ k hk) hs.2.1) hs.2.2
        case skip => exact hkeep undef w' hs.1 (fun k hk => hM i k _ w w' (hne k hk) (hΦ k hk) hs.2.1) hs.2.2
        case enter f args =>
          refine hs.mono fun e w'' ⟨u, he, hn⟩ => ?_
          subst he
          exact hkeep u w'' hn.1 (fun k hk => hM i k _ w w'' (hne k hk) (hΦ k hk) hn.2.1) hn.2.2
      | halt x w' => simp only [GUpon] at hs
    · rename_i hwn
      rw [if_neg hwn] at hs
      exact hkeep undef w hs.1 hΦ hs.2
  · intro listed a w hI hr
    rcases hI with hI | ⟨_, hq⟩
    case inr => exact hq
    exfalso
    obtain ⟨hln, hsz, hcl, _⟩ := hI
    have hallL : ∀ i, i < ops.size → listed.getD i false = true := by
      intro i
      induction i using Nat.strongRecOn with
      | _ i ih =>
        intro hi
        cases hc : listed.getD i true with
        | true => simp [show i < listed.size by omega] at hc ⊢; exact hc
        | false =>
          exfalso
          have ho : ops[i]? = some ops[i] := Array.getElem?_eq_getElem hi
          have hO := regionOk_at hok ho
          have : i ∈ Region.ready .any ops listed := mem_ready.2 ⟨hc, _, ho, fun e he hb => ih e.on (hO.edge e he hb) (by have := hO.edge e he hb; omega)⟩
          rw [hr] at this
          cases this
    rw [hallL n (by omega)] at hln
    cases hln
  · simp [unlisted]
  · refine .inl ⟨getD_replicate_false' _ _, by simp, ?_, rfl, rfl, by rw [getD_replicate_false']; exact h0, fun _ => undef, ?_, fun k hk => ?_⟩
    · intro j oj _ hl
      rw [getD_replicate_false'] at hl
      cases hl
    · intro t ht
      refine ⟨fun k ok _ _ => ?_, fun _ => rfl⟩
      rw [getD_replicate_false']
      simp
    · rw [getD_replicate_false'] at hk
      cases hk

/-- Likewise where the last operation turns the state: it comes last whatever order is drawn. -/
theorem wp_region_XE {id n : Nat} {a0 : Act} {w0 : World} {ol : Oper} (e : Nat) (J : Bool → World → Prop) (M : Nat → World → World → Prop) (Φ : Nat → Value → World → Prop)
    (hm : P.follows .mixedOrders = true) (hok : regionOk ops = true) (h0 : J false w0.drew)
    (hM : ∀ i k v w w', k ≠ i → Φ k v w → M i w w' → Φ k v w') (hen : e < n)
    (hn : ops.size = n + 1) (hol : ops[n]? = some ol) (hgl : ol.guard = none) (hlead : leadsTo ops = true)
    (hwalk : ∀ vals, wpX P ops e J M Φ vals 0 (ops.toList.take n) a0)
    (hfin : ∀ vals w, J true w → (∀ k, k < n → Φ k (vals k) w) → ol.wp P (fillG vals 0 (ops.toList.take n) a0) w (Q .normal) Q) : (Code.region id ops true).wp P Q a0 w0 := by
  refine wp_region_X e J M Φ hm hok h0 hM hen hn hol hgl hlead hwalk fun vals w hJ hf => ?_
  have key : ∀ (rest : List Oper) (i : Nat), (∀ j, j < rest.length → rest[j]? = ops[i + j]?) → fillG vals i rest (prefixAct ops vals a0 i) = prefixAct ops vals a0 (i + rest.length) := by
    intro rest
    induction rest with
    | nil => intro i _; rfl
    | cons o rest ih =>
      intro i hr
      have ho : ops[i]? = some o := by simpa using (hr 0 (by simp)).symm
      have := ih (i + 1) (fun j hj => by have := hr (j + 1) (by simp; omega); rw [show i + (j + 1) = i + 1 + j by omega] at this; simpa using this)
      simp only [prefixAct, ho, Option.bind_some] at this
      simp only [fillG, List.length_cons]
      rw [this, show i + 1 + rest.length = i + (rest.length + 1) by omega]
  have h1 := key (ops.toList.take n) 0 (fun j hj => by
    simp only [List.length_take, Array.length_toList] at hj
    rw [List.getElem?_take, if_pos (by omega)]
    simp)
  simp only [prefixAct, Nat.zero_add, List.length_take, Array.length_toList, show min n ops.size = n by omega] at h1
  rw [← h1]
  exact hfin vals w hJ hf

/-- A step that is no event: a value; a value that hangs on the world; a call; new memory. -/
theorem xval {J : Bool → World → Prop} {M : Nat → World → World → Prop} {Φ : Nat → Value → World → Prop} {e : Nat} {vals : Nat → Value} {i : Nat} {o : Oper} {a : Act} (c : Value) (hM : ∀ w, M i w w) (hie : i ≠ e)
    (h : ∀ fl w, J fl w → (∀ k, k < ops.size → waitsOn o k = true → Φ k (vals k) w) → Region.wanted o (yielded ops a.tmps) = true ∧ (execOp a.eval o).run P w = .ok (.value c) w ∧ Φ i c w) : XStep P ops e J M Φ vals i o a := by
  refine ⟨fun fl w _ _ hJ hd => ?_⟩
  obtain ⟨h1, h2, h3⟩ := h fl w hJ hd
  rw [if_pos h1, h2]
  exact ⟨by simpa [hie] using hJ, hM w, h3⟩
theorem xlate {J : Bool → World → Prop} {M : Nat → World → World → Prop} {Φ : Nat → Value → World → Prop} {e : Nat} {vals : Nat → Value} {i : Nat} {o : Oper} {a : Act} (c : Value) (hM : ∀ w, M i w w) (hie : i ≠ e) (hw : waitsOn o e = true)
    (h : ∀ w, J true w → (∀ k, k < ops.size → waitsOn o k = true → Φ k (vals k) w) → Region.wanted o (yielded ops a.tmps) = true ∧ (execOp a.eval o).run P w = .ok (.value c) w ∧ Φ i c w) : XStep P ops e J M Φ vals i o a := by
  refine ⟨fun fl w _ hf hJ hd => ?_⟩
  obtain rfl := hf hw
  obtain ⟨h1, h2, h3⟩ := h w hJ hd
  rw [if_pos h1, h2]
  exact ⟨by simpa [hie] using hJ, hM w, h3⟩
theorem xop {J : Bool → World → Prop} {M : Nat → World → World → Prop} {Φ : Nat → Value → World → Prop} {e : Nat} {vals : Nat → Value} {i : Nat} {o : Oper} {a : Act} (m : Sem Value) (c : Value) (hM : ∀ w, M i w w) (hie : i ≠ e)
    (h : ∀ fl w, J fl w → (∀ k, k < ops.size → waitsOn o k = true → Φ k (vals k) w) → Region.wanted o (yielded ops a.tmps) = true ∧ execOp a.eval o = (do let r ← m; pure (.value r)) ∧ m.run P w = .ok c w ∧ Φ i c w) : XStep P ops e J M Φ vals i o a := by
  refine ⟨fun fl w _ _ hJ hd => ?_⟩
  obtain ⟨h1, h2, h3, h4⟩ := h fl w hJ hd
  rw [if_pos h1, h2, Sem.run_bind, h3]
  exact ⟨by simpa [hie] using hJ, hM w, h4⟩
theorem xmake {J : Bool → World → Prop} {M : Nat → World → World → Prop} {Φ : Nat → Value → World → Prop} {e : Nat} {vals : Nat → Value} {i : Nat} {o : Oper} {a : Act} (hie : i ≠ e)
    (h : ∀ fl w, J fl w → (∀ k, k < ops.size → waitsOn o k = true → Φ k (vals k) w) → Region.wanted o (yielded ops a.tmps) = true ∧ ∃ c w', (execOp a.eval o).run P w = .ok (.value c) w' ∧ J fl w' ∧ M i w w' ∧ Φ i c w') : XStep P ops e J M Φ vals i o a := by
  refine ⟨fun fl w _ _ hJ hd => ?_⟩
  obtain ⟨h1, c, w', h2, h3, h4⟩ := h fl w hJ hd
  rw [if_pos h1, h2]
  exact ⟨by simpa [hie] using h3, h4⟩
/-- The event: it makes a value; it stores. -/
theorem xevent {J : Bool → World → Prop} {M : Nat → World → World → Prop} {Φ : Nat → Value → World → Prop} {e : Nat} {vals : Nat → Value} {i : Nat} {o : Oper} {a : Act} (hie : i = e)
    (h : ∀ w, J false w → (∀ k, k < ops.size → waitsOn o k = true → Φ k (vals k) w) → Region.wanted o (yielded ops a.tmps) = true ∧ ∃ c w', (execOp a.eval o).run P w = .ok (.value c) w' ∧ J true w' ∧ M i w w' ∧ Φ i c w') : XStep P ops e J M Φ vals i o a := by
  refine ⟨fun fl w hf _ hJ hd => ?_⟩
  obtain rfl := hf hie
  obtain ⟨h1, c, w', h2, h3, h4⟩ := h w hJ hd
  rw [if_pos h1, h2]
  exact ⟨by simpa [hie] using h3, h4⟩
theorem xstore {J : Bool → World → Prop} {M : Nat → World → World → Prop} {Φ : Nat → Value → World → Prop} {e : Nat} {vals : Nat → Value} {i : Nat} {o : Oper} {a : Act} (hie : i = e)
    (h : ∀ w, J false w → (∀ k, k < ops.size → waitsOn o k = true → Φ k (vals k) w) → Region.wanted o (yielded ops a.tmps) = true ∧ ∃ w', (execOp a.eval o).run P w = .ok .skip w' ∧ J true w' ∧ M i w w' ∧ Φ i undef w') : XStep P ops e J M Φ vals i o a := by
  refine ⟨fun fl w hf _ hJ hd => ?_⟩
  obtain rfl := hf hie
  obtain ⟨h1, w', h2, h3, h4⟩ := h w hJ hd
  rw [if_pos h1, h2]
  exact ⟨by simpa [hie] using h3, h4⟩
theorem xcall {J : Bool → World → Prop} {M : Nat → World → World → Prop} {Φ : Nat → Value → World → Prop} {e : Nat} {vals : Nat → Value} {i : Nat} {o : Oper} {a : Act} (hie : i = e) (f : FuncId) (args : Array Value)
    (h : ∀ w, J false w → (∀ k, k < ops.size → waitsOn o k = true → Φ k (vals k) w) → Region.wanted o (yielded ops a.tmps) = true ∧ (execOp a.eval o).run P w = .ok (.enter f args) w ∧
      Calls P f args w fun e w'' => ∃ u, e = .returned u ∧ J true w'' ∧ M i w w'' ∧ Φ i u w'') : XStep P ops e J M Φ vals i o a := by
  refine ⟨fun fl w hf _ hJ hd => ?_⟩
  obtain rfl := hf hie
  obtain ⟨h1, h2, h3⟩ := h w hJ hd
  rw [if_pos h1, h2]
  refine h3.mono fun e' w'' ⟨u, he, h4, h5⟩ => ⟨u, he, by simpa [hie] using h4, h5⟩
end
end Go.Proofs.YtblbgalpkodibaaDoor
namespace Go.Proofs.YtblbgalpkodibaaDoor
open Go.RowKit
variable {P : Program} {l n : Nat}
def noDefer (ops : Array Oper) : Bool := ops.toList.all fun o => match o.op with | .defer _ => false | _ => true
theorem noDefer_of {ops : Array Oper} (h : noDefer ops = true) : ∀ o ∈ ops, ∀ c, o.op ≠ .defer c := fun o ho c e => by
  have := List.all_eq_true.1 h o (Array.mem_toList_iff.2 ho)
  rw [e] at this
  cases this
theorem rows_in {row : String} {args : Array Value} {w : World} {R : Value → World → Prop} (h : Rows P row args w R) : RowsIn (Fence.wide.inRound l) n P row args w R :=
  fun c cs _ => let ⟨v, w', r, s⟩ := h c cs; ⟨v, w', r, stepsIn_wide.2 s⟩
theorem oper_in {o : Oper} {a : Act} {w : World} {K : Act → World → Prop} {Q : Exit → Act → World → Prop} (hd : ∀ c, o.op ≠ .defer c) (h : o.wp P a w K Q) : o.wpIn (Fence.wide.inRound l) n P a w K Q := by
  unfold Oper.wpIn
  refine ⟨fun _ _ => trivial, ?_⟩
  rw [Oper.semAt_plain _ _ _ hd]
  unfold Oper.wp at h
  generalize (execOp a.eval o).run P w = r at *
  cases r with
  | ok x w' =>
    cases x <;> simp only [Oper.upon, Oper.uponIn] at h ⊢ <;>
      first
        | exact h
        | exact ⟨fun h_ => (by cases h_), CallsIn.inRound l (callsIn_wide.2 h)⟩
        | exact ⟨fun h_ => (by cases h_), rows_in h⟩
        | exact h.elim
  | halt x w' => cases x <;> simp only [Oper.upon, Oper.uponIn] at h ⊢ <;> exact h
theorem rows_wide {row : String} {args : Array Value} {w : World} {R : Value → World → Prop} (h : Rows P row args w R) : RowsIn Fence.wide n P row args w R :=
  fun c cs _ => let ⟨v, w', r, s⟩ := h c cs; ⟨v, w', r, stepsIn_wide.2 s⟩
theorem oper_wide {o : Oper} {a : Act} {w : World} {K : Act → World → Prop} {Q : Exit → Act → World → Prop} (hd : ∀ c, o.op ≠ .defer c) (h : o.wp P a w K Q) : o.wpIn Fence.wide n P a w K Q := by
  unfold Oper.wpIn
  refine ⟨fun _ _ => trivial, ?_⟩
  rw [Oper.semAt_plain _ _ _ hd]
  unfold Oper.wp at h
  generalize (execOp a.eval o).run P w = r at *
  cases r with
  | ok x w' =>
    cases x <;> simp only [Oper.upon, Oper.uponIn] at h ⊢ <;>
      first
        | exact h
        | exact ⟨fun h_ => (by cases h_), callsIn_wide.2 h⟩
        | exact ⟨fun h_ => (by cases h_), rows_wide h⟩
        | exact h.elim
  | halt x w' => cases x <;> simp only [Oper.upon, Oper.uponIn] at h ⊢ <;> exact h
section
variable {ops : Array Oper} {rest : List Oper} {o : Oper} {a : Act} {w : World} {Q : Exit → Act → World → Prop}
/-- An operation of a plain list, by a law that speaks of its own continuation. -/
theorem listIn_of (hgd : o.guard = none) (hd : ∀ c, o.op ≠ .defer c) (h : ∀ K : Act → World → Prop, (∀ a w, wpListIn (Fence.wide.inRound l) n P ops Q rest a w → K a w) → o.wp P a w K Q) : wpListIn (Fence.wide.inRound l) n P ops Q (o :: rest) a w :=
  wpListIn_plain hgd fun K hK => oper_in hd (h K hK)
theorem listW_of (hgd : o.guard = none) (hd : ∀ c, o.op ≠ .defer c) (h : ∀ K : Act → World → Prop, (∀ a w, wpListIn Fence.wide n P ops Q rest a w → K a w) → o.wp P a w K Q) : wpListIn Fence.wide n P ops Q (o :: rest) a w :=
  wpListIn_plain hgd fun K hK => oper_wide hd (h K hK)
theorem wpOp_in {i : Nat} {K : Act → World → Prop} (hd : ∀ o ∈ ops, ∀ c, o.op ≠ .defer c) (hQ : ¬ LetsOut Q) (h : wpOp P ops Q i K a w) : wpOpIn (Fence.wide.inRound l) n P ops Q i K a w := by
  unfold wpOp at h
  unfold wpOpIn
  cases ho : ops[i]? with
  | none => rw [ho] at h; exact h
  | some o =>
    simp only [ho] at h ⊢
    split
    · rename_i hw
      rw [if_pos hw] at h
      rcases h with h | ⟨_, h⟩
      · exact oper_in (hd o (Array.mem_of_getElem? ho)) h
      · exact absurd h hQ
    · rename_i hw
      rw [if_neg hw] at h
      exact ⟨fun _ _ => trivial, h⟩
theorem wpAny_in {md : Region.Mode} (hd : ∀ o ∈ ops, ∀ c, o.op ≠ .defer c) (hQ : ¬ LetsOut Q) : ∀ (fuel : Nat) (listed : Array Bool) (a : Act) (w : World), wpAny P md ops Q fuel listed a w → wpAnyIn (Fence.wide.inRound l) n P md ops Q fuel listed a w := by
  intro fuel
  induction fuel with
  | zero => intro listed a w h; exact h
  | succ fuel ih =>
    intro listed a w h
    exact ⟨h.1, fun i hi => wpOpIn_mono (fun a w => ih _ a w) (wpOp_in hd hQ (h.2 i hi))⟩
/-- A region that draws its order, in a round; the last operation turns the state. -/
theorem wpIn_region_E {nF id n : Nat} {a0 : Act} {w0 : World} {ol : Oper} (J : World → Prop) (M : World → World → Prop) (Φ : Nat → Value → World → Prop)
    (hm : P.follows .mixedOrders = true) (hd : ∀ o ∈ ops, ∀ c, o.op ≠ .defer c) (hQ : ¬ LetsOut Q) (hok : regionOk ops = true) (h0 : J w0.drew)
    (hM : ∀ k v w w', Φ k v w → M w w' → Φ k v w')
    (hn : ops.size = n + 1) (hol : ops[n]? = some ol) (hgl : ol.guard = none) (hlead : leadsTo ops = true)
    (hwalk : ∀ vals, wpG P ops J M Φ vals 0 (ops.toList.take n) a0)
    (hfin : ∀ vals w, J w → (∀ k, k < n → Φ k (vals k) w) → ol.wp P (fillG vals 0 (ops.toList.take n) a0) w (Q .normal) Q) : (Code.region id ops true).wpIn (Fence.wide.inRound l) nF P Q a0 w0 :=
  wpIn_region_any hm (wpAny_in hd hQ _ _ _ _ (any_region_E J M Φ hok h0 hM hn hol hgl hlead hwalk hfin))
end
end Go.Proofs.YtblbgalpkodibaaDoor
