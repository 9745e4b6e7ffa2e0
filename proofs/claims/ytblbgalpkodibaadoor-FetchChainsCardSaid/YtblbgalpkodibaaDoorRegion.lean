/- A region that draws its order, by an invariant over what has come up: one walk in the order of the text. -/
import Derived.WalkKit
import Derived.WalkLawsBesides
import Derived.Deep.QuietTactic
import Derived.BigQuiet
namespace Go.Proofs.YtblbgalpkodibaaDoor
open Go.RowKit

section
variable {P : Program} {ops : Array Oper} {Q : Exit → Act → World → Prop} {md : Region.Mode}

theorem getD_both' {listed : Array Bool} {i : Nat} (h : listed.getD i true = false) : listed.getD i false = false := by
  rcases Nat.lt_or_ge i listed.size with h' | h'
  · simp [h'] at h ⊢; exact h
  · simp [Array.getElem?_eq_none h'] at h

theorem getD_replicate_false' (m j : Nat) : (Array.replicate m false).getD j false = false := by
  rcases Nat.lt_or_ge j m with h | h
  · simp [h]
  · simp [h]

def unlisted (listed : Array Bool) : Nat := listed.toList.count false

theorem count_set (l : List Bool) : ∀ (i : Nat), l[i]? = some false → (l.set i true).count false + 1 = l.count false := by
  induction l with
  | nil => intro i h; simp at h
  | cons b l ih =>
    intro i h
    cases i with
    | zero => simp at h; subst h; simp
    | succ i =>
      simp only [List.getElem?_cons_succ] at h
      have := ih i h
      simp only [List.set_cons_succ, List.count_cons]
      omega

theorem unlisted_set {listed : Array Bool} {i : Nat} (h : listed.getD i true = false) : unlisted (listed.setIfInBounds i true) + 1 = unlisted listed := by
  have hl : listed.toList[i]? = some false := by
    rcases Nat.lt_or_ge i listed.size with h' | h'
    · simp [h'] at h ⊢; exact h
    · simp [Array.getElem?_eq_none h'] at h
  unfold unlisted
  rw [Array.toList_setIfInBounds]
  exact count_set _ i hl

theorem ready_lt {i : Nat} {listed : Array Bool} (h : i ∈ Region.ready md ops listed) : i < ops.size := by
  obtain ⟨_, o, ho, _⟩ := mem_ready.1 h
  exact (Array.getElem?_eq_some_iff.1 ho).1

/-- An invariant that every operation that may come up keeps. -/
theorem wpAny_inv (I : Array Bool → Act → World → Prop)
    (step : ∀ listed a w i, I listed a w → i ∈ Region.ready md ops listed → wpOp P ops Q i (fun a' w' => I (listed.setIfInBounds i true) a' w') a w)
    (fin : ∀ listed a w, I listed a w → Region.ready md ops listed = [] → Q .normal a w) :
    ∀ (fuel : Nat) (listed : Array Bool) (a : Act) (w : World), unlisted listed ≤ fuel → I listed a w → wpAny P md ops Q fuel listed a w := by
  intro fuel
  induction fuel with
  | zero =>
    intro listed a w hf hI
    have hr : Region.ready md ops listed = [] := by
      apply List.eq_nil_iff_forall_not_mem.2
      intro i hi
      have := unlisted_set (mem_ready.1 hi).1
      omega
    exact ⟨hr, fin _ _ _ hI hr⟩
  | succ fuel ih =>
    intro listed a w hf hI
    refine ⟨fun hr => fin _ _ _ hI hr, fun i hi => wpOp_mono (fun a' w' h' => ?_) (step _ _ _ i hI hi)⟩
    have := unlisted_set (mem_ready.1 hi).1
    exact ih _ _ _ (by omega) h'

/-- What is asked of one operation, once its run is known. -/
def JUpon (P : Program) (N : World → Prop) (v : Value) : Result Next → Prop
  | .ok (.value u) w' => u = v ∧ N w'
  | .ok .skip w' => v = undef ∧ N w'
  | .ok (.enter f args) w' => Calls P f args w' (fun e w'' => e = .returned v ∧ N w'')
  | _ => False

structure JStep (P : Program) (ops : Array Oper) (J : Array Bool → World → Prop) (i : Nat) (o : Oper) (a : Act) (v : Value) : Prop where
  out : ∀ listed w, J listed w → i ∈ Region.ready .any ops listed →
    if Region.wanted o (yielded ops a.tmps) then JUpon P (J (listed.setIfInBounds i true)) v ((execOp a.eval o).run P w)
    else v = undef ∧ J (listed.setIfInBounds i true) w

def wpJ (P : Program) (ops : Array Oper) (J : Array Bool → World → Prop) (Q : Act → Prop) : Nat → List Oper → Act → Prop
  | _, [], a => Q a
  | i, o :: rest, a => ∃ v, JStep P ops J i o a v ∧ wpJ P ops J Q (i + 1) rest (a.put o.dst v)

/-- The direct edges order whatever reads or writes one temporary. -/
def waitsOn (o : Oper) (k : Nat) : Bool := o.after.any fun e => Region.binds .any e && e.on == k
def regionOk (ops : Array Oper) : Bool :=
  (List.range ops.size).all fun j => match ops[j]? with
    | none => true
    | some oj =>
      (match oj.op with | .select _ _ => false | _ => true) &&
      (oj.after.all fun e => !Region.binds .any e || decide (e.on < j)) &&
      (match oj.guard with | none => true | some (g, _) => ((ops[g]?).bind (·.dst)).isSome) &&
      (List.range ops.size).all fun k => decide (k = j) || match ops[k]? with
        | none => true
        | some ok => match ok.dst with
          | none => true
          | some d => oj.dst != some d && (!(oj.looksAt ops).contains d || (if k < j then waitsOn oj k else waitsOn ok j))

def prefixAct (ops : Array Oper) (vals : Nat → Value) (a : Act) : Nat → Act
  | 0 => a
  | n + 1 => (prefixAct ops vals a n).put ((ops[n]?).bind (·.dst)) (vals n)

theorem wpJ_vals {J : Array Bool → World → Prop} {Q' : Act → Prop} (a0 : Act) : ∀ (rest : List Oper) (i : Nat) (vals : Nat → Value),
    (∀ j, rest[j]? = ops[i + j]?) → wpJ P ops J Q' i rest (prefixAct ops vals a0 i) →
    ∃ vals' : Nat → Value, (∀ j, j < i → vals' j = vals j) ∧ (∀ j o, i ≤ j → ops[j]? = some o → JStep P ops J j o (prefixAct ops vals' a0 j) (vals' j)) ∧ Q' (prefixAct ops vals' a0 (i + rest.length)) := by
  have keep : ∀ (v v' : Nat → Value) (n : Nat), (∀ j, j < n → v' j = v j) → prefixAct ops v' a0 n = prefixAct ops v a0 n := by
    intro v v' n
    induction n with
    | zero => intro _; rfl
    | succ n ih => intro h; simp only [prefixAct]; rw [ih (fun j hj => h j (by omega)), h n (by omega)]
  intro rest
  induction rest with
  | nil =>
    intro i vals hr h
    refine ⟨vals, fun _ _ => rfl, fun j o hij ho => ?_, by simpa [wpJ] using h⟩
    have := hr (j - i)
    rw [show i + (j - i) = j by omega, ho] at this
    simp at this
  | cons o rest ih =>
    intro i vals hr h
    obtain ⟨v, hs, hn⟩ := h
    have ho : ops[i]? = some o := by simpa using (hr 0).symm
    let vals1 : Nat → Value := fun j => if j = i then v else vals j
    have e1 : prefixAct ops vals1 a0 i = prefixAct ops vals a0 i := keep vals vals1 i (fun j hj => by simp [vals1]; omega)
    have e2 : prefixAct ops vals1 a0 (i + 1) = (prefixAct ops vals a0 i).put o.dst v := by
      simp only [prefixAct, e1, ho, Option.bind_some]
      simp [vals1]
    rw [← e2] at hn
    obtain ⟨vals', h1, h2, h3⟩ := ih (i + 1) vals1 (fun j => by have := hr (j + 1); rw [show i + (j + 1) = i + 1 + j by omega] at this; simpa using this) hn
    have hv : vals' i = v := by rw [h1 i (by omega)]; simp [vals1]
    refine ⟨vals', fun j hj => by rw [h1 j (by omega)]; simp [vals1]; omega, fun j o' hij ho' => ?_, ?_⟩
    · by_cases hj : j = i
      · subst hj
        have : o' = o := Option.some.inj (ho'.symm.trans ho)
        subst this
        rw [hv, keep vals1 vals' j (fun k hk => h1 k (by omega)), e1]
        exact hs
      · exact h2 j o' (by omega) ho'
    · have : i + (o :: rest).length = i + 1 + rest.length := by simp; omega
      rw [this]; exact h3

theorem prefixAct_defers (vals : Nat → Value) (a : Act) (n : Nat) : (prefixAct ops vals a n).defers = a.defers := by
  induction n with
  | zero => rfl
  | succ n ih =>
    simp only [prefixAct]
    cases (ops[n]?).bind (·.dst) <;> simp [Act.put, ih]

theorem Act.put_getElem (a : Act) (d : Option Tmp) (v : Value) (t : Nat) :
    (a.put d v).tmps[t]? = if d = some t ∧ t < a.tmps.size then some v else a.tmps[t]? := by
  cases d with
  | none => simp [Act.put]
  | some d =>
    simp only [Act.put, Option.some.injEq]
    by_cases h : d = t
    · subst h
      by_cases h2 : d < a.tmps.size
      · simp [h2]
      · simp [h2]
    · simp [h, Array.getElem?_setIfInBounds_ne h]

theorem Act.put_size (a : Act) (d : Option Tmp) (v : Value) : (a.put d v).tmps.size = a.tmps.size := by
  cases d <;> simp [Act.put]

theorem prefixAct_size (vals : Nat → Value) (a : Act) (n : Nat) : (prefixAct ops vals a n).tmps.size = a.tmps.size := by
  induction n with
  | zero => rfl
  | succ n ih => simp only [prefixAct]; rw [Act.put_size, ih]

/-- Slot t behind the first n operations: the value of the one that writes it, if it is among them. -/
theorem prefixAct_at (vals : Nat → Value) (a : Act) (n t : Nat) (k : Nat) (hd : (ops[k]?).bind (·.dst) = some t)
    (huniq : ∀ j : Nat, (ops[j]?).bind (·.dst) = some t → j = k) (ht : t < a.tmps.size) :
    (prefixAct ops vals a n).tmps[t]? = if k < n then some (vals k) else a.tmps[t]? := by
  induction n with
  | zero => simp [prefixAct]
  | succ n ih =>
    simp only [prefixAct, Act.put_getElem, prefixAct_size]
    by_cases h : k = n
    · subst h
      simp [hd, ht]
    · have hne : ¬ (ops[n]?).bind (·.dst) = some t := fun e => h (huniq n e).symm
      simp only [hne, false_and, if_false, ih]
      by_cases h2 : k < n
      · simp [h2, show k < n + 1 by omega]
      · simp [h2, show ¬ k < n + 1 by omega]

theorem prefixAct_none (vals : Nat → Value) (a : Act) (n t : Nat) (hd : ∀ j : Nat, (ops[j]?).bind (·.dst) ≠ some t) :
    (prefixAct ops vals a n).tmps[t]? = a.tmps[t]? := by
  induction n with
  | zero => rfl
  | succ n ih => simp only [prefixAct, Act.put_getElem]; simp [hd n, ih]

structure OkAt (ops : Array Oper) (j : Nat) (oj : Oper) : Prop where
  sel : ∀ cs b, oj.op ≠ .select cs b
  edge : ∀ e ∈ oj.after, Region.binds .any e = true → e.on < j
  gd : ∀ g want, oj.guard = some (g, want) → ∃ d, (ops[g]?).bind (·.dst) = some d
  dst : ∀ k ok d, k ≠ j → ops[k]? = some ok → ok.dst = some d → oj.dst ≠ some d
  look : ∀ k ok d, k ≠ j → ops[k]? = some ok → ok.dst = some d → d ∈ oj.looksAt ops → if k < j then waitsOn oj k = true else waitsOn ok j = true

theorem regionOk_at (h : regionOk ops = true) {j : Nat} {oj : Oper} (hj : ops[j]? = some oj) : OkAt ops j oj := by
  have hlt : j < ops.size := (Array.getElem?_eq_some_iff.1 hj).1
  have h1 := List.all_eq_true.1 h j (List.mem_range.2 hlt)
  simp only [hj, Bool.and_eq_true] at h1
  obtain ⟨⟨⟨h1, h2⟩, h3⟩, h4⟩ := h1
  refine ⟨fun cs b e => by rw [e] at h1; simp at h1, fun e he hb => ?_, fun g want hg => ?_, fun k ok d hk hok hd => ?_, fun k ok d hk hok hd hl => ?_⟩
  · have := Array.all_eq_true'.1 h2 e he
    simp only [hb, Bool.not_true, Bool.false_or, decide_eq_true_eq] at this
    exact this
  · rw [hg] at h3
    exact Option.isSome_iff_exists.1 h3
  all_goals
    have hkl : k < ops.size := (Array.getElem?_eq_some_iff.1 hok).1
    have h5 := List.all_eq_true.1 h4 k (List.mem_range.2 hkl)
    simp only [hok, hd, hk, decide_false, Bool.false_or, Bool.and_eq_true, bne_iff_ne, ne_eq, Bool.or_eq_true] at h5
  · exact h5.1
  · rcases h5.2 with h6 | h6
    · simp [hl] at h6
    · split <;> simp_all

theorem waitsOn_spec {o : Oper} {k : Nat} (h : waitsOn o k = true) : ∃ e ∈ o.after, Region.binds .any e = true ∧ e.on = k := by
  unfold waitsOn at h
  obtain ⟨e, he, hb⟩ := Array.any_eq_true'.1 h
  simp only [Bool.and_eq_true, beq_iff_eq] at hb
  exact ⟨e, he, hb.1, hb.2⟩

/-- WHATEVER ORDER IS DRAWN: one walk in the order of the text, under an invariant J of (what has come up, the world). -/
theorem wp_region_J {id : Nat} {a0 : Act} {w0 : World} (J : Array Bool → World → Prop) {Q' : Act → Prop}
    (hm : P.follows .mixedOrders = true) (hok : regionOk ops = true)
    (h0 : J (Array.replicate ops.size false) w0.drew)
    (hwalk : wpJ P ops J Q' 0 ops.toList a0)
    (hfin : ∀ a w, Q' a → J (Array.replicate ops.size true) w → Q .normal a w) : (Code.region id ops true).wp P Q a0 w0 := by
  obtain ⟨vals, _, hstep, hQ⟩ := wpJ_vals (ops := ops) a0 ops.toList 0 (fun _ => undef) (fun j => by simp) hwalk
  simp only [Nat.zero_add, Array.length_toList] at hQ
  refine wp_region_any hm ?_
  let I : Array Bool → Act → World → Prop := fun listed a w =>
    listed.size = ops.size ∧ (∀ j oj, ops[j]? = some oj → listed.getD j false = true → ∀ e ∈ oj.after, Region.binds .any e = true → listed.getD e.on false = true) ∧
    a.defers = a0.defers ∧ a.tmps.size = a0.tmps.size ∧
    (∀ t, t < a0.tmps.size → (∀ k ok, ops[k]? = some ok → ok.dst = some t → a.tmps[t]? = if listed.getD k false then some (vals k) else a0.tmps[t]?) ∧
      ((∀ k : Nat, (ops[k]?).bind (·.dst) ≠ some t) → a.tmps[t]? = a0.tmps[t]?)) ∧ J listed w
  have uniq : ∀ {t k k' : Nat} {ok : Oper}, ops[k]? = some ok → ok.dst = some t → (ops[k']?).bind (·.dst) = some t → k' = k := by
    intro t k k' ok hk hd hb
    cases hk' : ops[k']? with
    | none => rw [hk'] at hb; cases hb
    | some ok' =>
      rw [hk'] at hb
      by_cases e : k' = k
      · exact e
      · exact absurd hb ((regionOk_at hok hk').dst k ok t (fun x => e x.symm) hk hd)
  refine wpAny_inv I ?_ ?_ ops.size _ _ _ ?_ ?_
  · -- an operation comes up
    intro listed a w i hI hi
    obtain ⟨hsz, hcl, hdf, hts, htm, hJ⟩ := hI
    obtain ⟨hun, o, ho, hall⟩ := mem_ready.1 hi
    have hilt := ready_lt hi
    have hO := regionOk_at hok ho
    -- the slots that it looks at read as in the walk of the text
    have hslot : ∀ t : Nat, t ∈ o.looksAt ops → a.tmps[t]? = (prefixAct ops vals a0 i).tmps[t]? := by
      intro t ht
      by_cases hts0 : t < a0.tmps.size
      · exact show a.tmps[t]? = (prefixAct ops vals a0 i).tmps[t]? from by
          by_cases hw : ∀ k : Nat, (ops[k]?).bind (·.dst) ≠ some t
          · rw [(htm t hts0).2 hw, prefixAct_none vals a0 i t hw]
          · have hw' : ∃ k : Nat, (ops[k]?).bind (·.dst) = some t := Classical.byContradiction fun hc => hw fun k hk => hc ⟨k, hk⟩
            obtain ⟨k, hk⟩ := hw'
            cases hok' : ops[k]? with
            | none => rw [hok'] at hk; cases hk
            | some ok =>
              have hd : ok.dst = some t := by rw [hok'] at hk; exact hk
              rw [(htm t hts0).1 k ok hok' hd, prefixAct_at vals a0 i t k hk (fun j hj => uniq hok' hd hj) hts0]
              by_cases hki : k = i
              · subst hki
                have : listed.getD k false = false := getD_both' hun
                simp [this]
              · have hl := hO.look k ok t hki hok' hd ht
                by_cases hlt : k < i
                · rw [if_pos hlt] at hl
                  obtain ⟨e, he, hb, hon⟩ := waitsOn_spec hl
                  have := hall e he hb
                  rw [hon] at this
                  simp [this, hlt]
                · rw [if_neg hlt] at hl
                  obtain ⟨e, he, hb, hon⟩ := waitsOn_spec hl
                  have hnl : listed.getD k false = false := by
                    cases hc : listed.getD k false with
                    | false => rfl
                    | true =>
                      have := hcl k ok hok' hc e he hb
                      rw [hon, getD_both' hun] at this
                      cases this
                  simp [hnl, hlt]
      · have h1 : a.tmps[t]? = none := Array.getElem?_eq_none (by omega)
        have h2 : (prefixAct ops vals a0 i).tmps[t]? = none := Array.getElem?_eq_none (by rw [prefixAct_size]; omega)
        rw [h1, h2]
    have hexec : execOp a.eval o = execOp (prefixAct ops vals a0 i).eval o := by
      refine execOp_congr o hO.sel fun x hx => ?_
      cases x with
      | tmp t =>
        show a.tmps.getD t undef = (prefixAct ops vals a0 i).tmps.getD t undef
        rw [Array.getD_eq_getD_getElem?, Array.getD_eq_getD_getElem?, hslot t ?_]
        unfold Oper.looksAt
        refine List.mem_append_left _ ?_
        exact List.mem_filterMap.2 ⟨.tmp t, by simpa using hx, rfl⟩
      | _ => rfl
    have hwant : Region.wanted o (yielded ops a.tmps) = Region.wanted o (yielded ops (prefixAct ops vals a0 i).tmps) := by
      unfold Region.wanted
      cases hg : o.guard with
      | none => rfl
      | some gw =>
        obtain ⟨g, want⟩ := gw
        obtain ⟨d, hd⟩ := hO.gd g want hg
        have hdl : d ∈ o.looksAt ops := by
          unfold Oper.looksAt
          refine List.mem_append_right _ ?_
          simp [hg, hd]
        have := hslot d hdl
        simp [yielded, hd, this]
    have hkeep : ∀ (v : Value) (w' : World), v = vals i → J (listed.setIfInBounds i true) w' → I (listed.setIfInBounds i true) (a.put o.dst v) w' := by
      intro v w' hv hJ'
      subst hv
      refine ⟨by simp [hsz], ?_, ?_, by rw [Act.put_size]; exact hts, ?_, hJ'⟩
      · intro j oj hj hl e he hb
        by_cases hij : i = j
        · subst hij
          have : oj = o := Option.some.inj (hj.symm.trans ho)
          subst this
          exact getD_set_true (hall e he hb)
        · rw [getD_set_ne false hij] at hl
          exact getD_set_true (hcl j oj hj hl e he hb)
      · cases o.dst <;> simp [Act.put, hdf]
      · intro t ht
        refine ⟨fun k ok hk hd => ?_, fun hw => ?_⟩
        · rw [Act.put_getElem]
          by_cases hki : k = i
          · subst hki
            have : ok = o := Option.some.inj (hk.symm.trans ho)
            subst this
            have hs : (listed.setIfInBounds k true).getD k false = true := by
              simp [show k < listed.size by omega]
            simp [hd, hts, ht, hs]
          · have hne : ¬ (o.dst = some t ∧ t < a.tmps.size) := fun hc => hO.dst k ok t hki hk hd hc.1
            rw [if_neg hne, (htm t ht).1 k ok hk hd, getD_set_ne false (fun x => hki x.symm)]
        · rw [Act.put_getElem]
          have hne : ¬ (o.dst = some t ∧ t < a.tmps.size) := fun hc => hw i (by simp [ho, hc.1])
          rw [if_neg hne]
          exact (htm t ht).2 hw
    have hs := (hstep i o (Nat.zero_le _) ho).out listed w hJ hi
    unfold wpOp
    simp only [ho]
    rw [hwant]
    split
    · rename_i hwn
      rw [if_pos hwn, ← hexec] at hs
      refine .inl ?_
      unfold Oper.wp
      generalize (execOp a.eval o).run P w = r at hs ⊢
      cases r with
      | ok n w' =>
        cases n <;> simp only [JUpon] at hs <;> simp only [Oper.upon]
        case value u => exact hkeep u w' hs.1 hs.2
        case skip => exact hkeep undef w' hs.1.symm hs.2
        case enter f args =>
          refine hs.mono fun e w'' ⟨he, hn⟩ => ?_
          subst he
          exact hkeep _ w'' rfl hn
      | halt x w' => simp only [JUpon] at hs
    · rename_i hwn
      rw [if_neg hwn] at hs
      exact hkeep undef w hs.1.symm hs.2
  · -- all have come up
    intro listed a w hI hr
    obtain ⟨hsz, hcl, hdf, hts, htm, hJ⟩ := hI
    have hallL : ∀ i, i < ops.size → listed.getD i false = true := by
      intro i
      induction i using Nat.strongRecOn with
      | _ i ih =>
        intro hi
        cases hc : listed.getD i true with
        | true => simp [show i < listed.size by omega] at hc ⊢; exact hc
        | false =>
          exfalso
          have ho : ops[i]? = some ops[i] := Array.getElem?_eq_getElem hi
          have hO := regionOk_at hok ho
          have : i ∈ Region.ready .any ops listed := mem_ready.2 ⟨hc, _, ho, fun e he hb => ih e.on (hO.edge e he hb) (by have := hO.edge e he hb; omega)⟩
          rw [hr] at this
          cases this
    have hlist : listed = Array.replicate ops.size true := by
      apply Array.ext
      · simp [hsz]
      · intro i h1 h2
        have := hallL i (by omega)
        simp [h1] at this ⊢
        exact this
    have hact : a = prefixAct ops vals a0 ops.size := by
      have h1 : a.defers = (prefixAct ops vals a0 ops.size).defers := by rw [prefixAct_defers, hdf]
      have h2 : a.tmps = (prefixAct ops vals a0 ops.size).tmps := by
        apply Array.ext_getElem?
        intro t
        by_cases ht : t < a0.tmps.size
        · by_cases hw : ∀ k : Nat, (ops[k]?).bind (·.dst) ≠ some t
          · rw [(htm t ht).2 hw, prefixAct_none vals a0 _ t hw]
          · have hw' : ∃ k : Nat, (ops[k]?).bind (·.dst) = some t := Classical.byContradiction fun hc => hw fun k hk => hc ⟨k, hk⟩
            obtain ⟨k, hk⟩ := hw'
            cases hok' : ops[k]? with
            | none => rw [hok'] at hk; cases hk
            | some ok =>
              have hd : ok.dst = some t := by rw [hok'] at hk; exact hk
              have hkl : k < ops.size := (Array.getElem?_eq_some_iff.1 hok').1
              rw [(htm t ht).1 k ok hok' hd, prefixAct_at vals a0 _ t k hk (fun j hj => uniq hok' hd hj) ht, hallL k hkl]
              simp [hkl]
        · rw [Array.getElem?_eq_none (by omega), Array.getElem?_eq_none (by rw [prefixAct_size]; omega)]
      cases a; cases h : prefixAct ops vals a0 ops.size
      simp_all
    rw [hact]
    exact hfin _ w hQ (hlist ▸ hJ)
  · simp [unlisted]
  · refine ⟨by simp, ?_, rfl, rfl, ?_, h0⟩
    · intro j oj _ hl
      rw [getD_replicate_false'] at hl
      cases hl
    · intro t ht
      refine ⟨fun k ok _ _ => ?_, fun _ => rfl⟩
      rw [getD_replicate_false']
      simp

theorem wpJ_nil {J : Array Bool → World → Prop} {Q' : Act → Prop} {i : Nat} {a : Act} (h : Q' a) : wpJ P ops J Q' i [] a := h
theorem wpJ_cons {J : Array Bool → World → Prop} {Q' : Act → Prop} {i : Nat} {a : Act} {o : Oper} {rest : List Oper} (v : Value)
    (h : JStep P ops J i o a v) (hk : wpJ P ops J Q' (i + 1) rest (a.put o.dst v)) : wpJ P ops J Q' i (o :: rest) a := ⟨v, h, hk⟩

/-! ### The same with values that hang on the order (a new slice, say): each value is known by a property that later steps keep. -/
def GUpon (P : Program) (K : Value → World → Prop) : Result Next → Prop
  | .ok (.value u) w' => K u w'
  | .ok .skip w' => K undef w'
  | .ok (.enter f args) w' => Calls P f args w' (fun e w'' => ∃ u, e = .returned u ∧ K u w'')
  | _ => False
structure GStep (P : Program) (ops : Array Oper) (J : World → Prop) (M : World → World → Prop) (Φ : Nat → Value → World → Prop) (vals : Nat → Value) (i : Nat) (o : Oper) (a : Act) : Prop where
  out : ∀ w, J w → (∀ k, k < ops.size → waitsOn o k = true → Φ k (vals k) w) →
    if Region.wanted o (yielded ops a.tmps) then GUpon P (fun v w' => J w' ∧ M w w' ∧ Φ i v w') ((execOp a.eval o).run P w) else Φ i undef w
def wpG (P : Program) (ops : Array Oper) (J : World → Prop) (M : World → World → Prop) (Φ : Nat → Value → World → Prop) (vals : Nat → Value) : Nat → List Oper → Act → Prop
  | _, [], _ => True
  | i, o :: rest, a => GStep P ops J M Φ vals i o a ∧ wpG P ops J M Φ vals (i + 1) rest (a.put o.dst (vals i))
theorem wpG_nil {J : World → Prop} {M : World → World → Prop} {Φ : Nat → Value → World → Prop} {vals : Nat → Value} {i : Nat} {a : Act} : wpG P ops J M Φ vals i [] a := trivial
theorem wpG_cons {J : World → Prop} {M : World → World → Prop} {Φ : Nat → Value → World → Prop} {vals : Nat → Value} {i : Nat} {a : Act} {o : Oper} {rest : List Oper} (h : GStep P ops J M Φ vals i o a) (k : wpG P ops J M Φ vals (i + 1) rest (a.put o.dst (vals i))) :
    wpG P ops J M Φ vals i (o :: rest) a := ⟨h, k⟩
theorem wpG_at {J : World → Prop} {M : World → World → Prop} {Φ : Nat → Value → World → Prop} {vals : Nat → Value} (a0 : Act) : ∀ (rest : List Oper) (i : Nat), (∀ j, rest[j]? = ops[i + j]?) → wpG P ops J M Φ vals i rest (prefixAct ops vals a0 i) →
    ∀ j o, i ≤ j → ops[j]? = some o → GStep P ops J M Φ vals j o (prefixAct ops vals a0 j) := by
  intro rest
  induction rest with
  | nil =>
    intro i hr _ j o hij ho
    have := hr (j - i)
    rw [show i + (j - i) = j by omega, ho] at this
    simp at this
  | cons o rest ih =>
    intro i hr h j o' hij ho'
    have ho : ops[i]? = some o := by simpa using (hr 0).symm
    by_cases hj : j = i
    · subst hj
      have : o' = o := Option.some.inj (ho'.symm.trans ho)
      subst this
      exact h.1
    · refine ih (i + 1) (fun j => by have := hr (j + 1); rw [show i + (j + 1) = i + 1 + j by omega] at this; simpa using this) ?_ j o' (by omega) ho'
      have h2 := h.2
      simp only [prefixAct, ho, Option.bind_some]
      exact h2
theorem prefixAct_congr {vals vals' : Nat → Value} {a0 : Act} : ∀ n, (∀ k, k < n → (ops[k]?).bind (·.dst) ≠ none → vals' k = vals k) → prefixAct ops vals' a0 n = prefixAct ops vals a0 n := by
  intro n
  induction n with
  | zero => intro _; rfl
  | succ n ih =>
    intro h
    simp only [prefixAct]
    rw [ih (fun k hk => h k (by omega))]
    cases hd : (ops[n]?).bind (·.dst) with
    | none => rfl
    | some d => rw [h n (by omega) (by rw [hd]; simp)]

theorem wp_region_G {id : Nat} {a0 : Act} {w0 : World} (J : World → Prop) (M : World → World → Prop) (Φ : Nat → Value → World → Prop)
    (hm : P.follows .mixedOrders = true) (hok : regionOk ops = true) (h0 : J w0.drew)
    (hM : ∀ k v w w', Φ k v w → M w w' → Φ k v w')
    (hwalk : ∀ vals, wpG P ops J M Φ vals 0 ops.toList a0)
    (hfin : ∀ vals w, J w → (∀ k, k < ops.size → Φ k (vals k) w) → Q .normal (prefixAct ops vals a0 ops.size) w) : (Code.region id ops true).wp P Q a0 w0 := by
  refine wp_region_any hm ?_
  let I : Array Bool → Act → World → Prop := fun listed a w =>
    listed.size = ops.size ∧ (∀ j oj, ops[j]? = some oj → listed.getD j false = true → ∀ e ∈ oj.after, Region.binds .any e = true → listed.getD e.on false = true) ∧
    a.defers = a0.defers ∧ a.tmps.size = a0.tmps.size ∧ J w ∧ ∃ vals : Nat → Value,
    (∀ t, t < a0.tmps.size → (∀ k ok, ops[k]? = some ok → ok.dst = some t → a.tmps[t]? = if listed.getD k false then some (vals k) else a0.tmps[t]?) ∧
      ((∀ k : Nat, (ops[k]?).bind (·.dst) ≠ some t) → a.tmps[t]? = a0.tmps[t]?)) ∧ (∀ k, listed.getD k false = true → Φ k (vals k) w)
  have uniq : ∀ {t k k' : Nat} {ok : Oper}, ops[k]? = some ok → ok.dst = some t → (ops[k']?).bind (·.dst) = some t → k' = k := by
    intro t k k' ok hk hd hb
    cases hk' : ops[k']? with
    | none => rw [hk'] at hb; cases hb
    | some ok' =>
      rw [hk'] at hb
      by_cases e : k' = k
      · exact e
      · exact absurd hb ((regionOk_at hok hk').dst k ok t (fun x => e x.symm) hk hd)
  refine wpAny_inv I ?_ ?_ ops.size _ _ _ ?_ ?_
  · intro listed a w i hI hi
    obtain ⟨hsz, hcl, hdf, hts, hJ, vals, htm, hΦ⟩ := hI
    obtain ⟨hun, o, ho, hall⟩ := mem_ready.1 hi
    have hilt := ready_lt hi
    have hO := regionOk_at hok ho
    have hslot : ∀ t : Nat, t ∈ o.looksAt ops → a.tmps[t]? = (prefixAct ops vals a0 i).tmps[t]? := by
      intro t ht
      by_cases hts0 : t < a0.tmps.size
      · exact show a.tmps[t]? = (prefixAct ops vals a0 i).tmps[t]? from by
          by_cases hw : ∀ k : Nat, (ops[k]?).bind (·.dst) ≠ some t
          · rw [(htm t hts0).2 hw, prefixAct_none vals a0 i t hw]
          · have hw' : ∃ k : Nat, (ops[k]?).bind (·.dst) = some t := Classical.byContradiction fun hc => hw fun k hk => hc ⟨k, hk⟩
            obtain ⟨k, hk⟩ := hw'
            cases hok' : ops[k]? with
            | none => rw [hok'] at hk; cases hk
            | some ok =>
              have hd : ok.dst = some t := by rw [hok'] at hk; exact hk
              rw [(htm t hts0).1 k ok hok' hd, prefixAct_at vals a0 i t k hk (fun j hj => uniq hok' hd hj) hts0]
              by_cases hki : k = i
              · subst hki
                have : listed.getD k false = false := getD_both' hun
                simp [this]
              · have hl := hO.look k ok t hki hok' hd ht
                by_cases hlt : k < i
                · rw [if_pos hlt] at hl
                  obtain ⟨e, he, hb, hon⟩ := waitsOn_spec hl
                  have := hall e he hb
                  rw [hon] at this
                  simp [this, hlt]
                · rw [if_neg hlt] at hl
                  obtain ⟨e, he, hb, hon⟩ := waitsOn_spec hl
                  have hnl : listed.getD k false = false := by
                    cases hc : listed.getD k false with
                    | false => rfl
                    | true =>
                      have := hcl k ok hok' hc e he hb
                      rw [hon, getD_both' hun] at this
                      cases this
                  simp [hnl, hlt]
      · have h1 : a.tmps[t]? = none := Array.getElem?_eq_none (by omega)
        have h2 : (prefixAct ops vals a0 i).tmps[t]? = none := Array.getElem?_eq_none (by rw [prefixAct_size]; omega)
        rw [h1, h2]
    have hexec : execOp a.eval o = execOp (prefixAct ops vals a0 i).eval o := by
      refine execOp_congr o hO.sel fun x hx => ?_
      cases x with
      | tmp t =>
        show a.tmps.getD t undef = (prefixAct ops vals a0 i).tmps.getD t undef
        rw [Array.getD_eq_getD_getElem?, Array.getD_eq_getD_getElem?, hslot t ?_]
        unfold Oper.looksAt
        refine List.mem_append_left _ ?_
        exact List.mem_filterMap.2 ⟨.tmp t, by simpa using hx, rfl⟩
      | _ => rfl
    have hwant : Region.wanted o (yielded ops a.tmps) = Region.wanted o (yielded ops (prefixAct ops vals a0 i).tmps) := by
      unfold Region.wanted
      cases hg : o.guard with
      | none => rfl
      | some gw =>
        obtain ⟨g, want⟩ := gw
        obtain ⟨d, hd⟩ := hO.gd g want hg
        have hdl : d ∈ o.looksAt ops := by
          unfold Oper.looksAt
          refine List.mem_append_right _ ?_
          simp [hg, hd]
        have := hslot d hdl
        simp [yielded, hd, this]
    have hkeep : ∀ (v : Value) (w' : World), J w' → (∀ k, listed.getD k false = true → Φ k (vals k) w') → Φ i v w' → I (listed.setIfInBounds i true) (a.put o.dst v) w' := by
      intro v w' hJ' hΦ' hv
      have hli : listed.getD i false = false := getD_both' hun
      refine ⟨by simp [hsz], ?_, ?_, by rw [Act.put_size]; exact hts, hJ', fun k => if k = i then v else vals k, ?_, ?_⟩
      · intro j oj hj hl e he hb
        by_cases hij : i = j
        · subst hij
          have : oj = o := Option.some.inj (hj.symm.trans ho)
          subst this
          exact getD_set_true (hall e he hb)
        · rw [getD_set_ne false hij] at hl
          exact getD_set_true (hcl j oj hj hl e he hb)
      · cases o.dst <;> simp [Act.put, hdf]
      · intro t ht
        refine ⟨fun k ok hk hd => ?_, fun hw => ?_⟩
        · rw [Act.put_getElem]
          by_cases hki : k = i
          · subst hki
            have : ok = o := Option.some.inj (hk.symm.trans ho)
            subst this
            have hs : (listed.setIfInBounds k true).getD k false = true := by
              simp [show k < listed.size by omega]
            simp [hd, hts, ht, hs]
          · have hne : ¬ (o.dst = some t ∧ t < a.tmps.size) := fun hc => hO.dst k ok t hki hk hd hc.1
            rw [if_neg hne, (htm t ht).1 k ok hk hd, getD_set_ne false (fun x => hki x.symm)]
            simp only [if_neg hki]
        · rw [Act.put_getElem]
          have hne : ¬ (o.dst = some t ∧ t < a.tmps.size) := fun hc => hw i (by simp [ho, hc.1])
          rw [if_neg hne]
          exact (htm t ht).2 hw
      · intro k hk
        by_cases hki : k = i
        · subst hki; simpa using hv
        · rw [getD_set_ne false (fun x => hki x.symm)] at hk
          simpa [hki] using hΦ' k hk
    have hs := (wpG_at a0 ops.toList 0 (fun j => by simp) (hwalk vals) i o (Nat.zero_le _) ho).out w hJ (fun k _ hk => by
      obtain ⟨e, he, hb, hon⟩ := waitsOn_spec hk
      have := hall e he hb
      rw [hon] at this
      exact hΦ k this)
    unfold wpOp
    simp only [ho]
    rw [hwant]
    split
    · rename_i hwn
      rw [if_pos hwn, ← hexec] at hs
      refine .inl ?_
      unfold Oper.wp
      generalize (execOp a.eval o).run P w = r at hs ⊢
      cases r with
      | ok n w' =>
        cases n <;> simp only [GUpon] at hs <;> simp only [Oper.upon]
        case value u => exact hkeep u w' hs.1 (fun k hk => hM k _ w w' (hΦ k hk) hs.2.1) hs.2.2
        case skip => exact hkeep undef w' hs.1 (fun k hk => hM k _ w w' (hΦ k hk) hs.2.1) hs.2.2
        case enter f args =>
          refine hs.mono fun e w'' ⟨u, he, hn⟩ => ?_
          subst he
          exact hkeep u w'' hn.1 (fun k hk => hM k _ w w'' (hΦ k hk) hn.2.1) hn.2.2
      | halt x w' => simp only [GUpon] at hs
    · rename_i hwn
      rw [if_neg hwn] at hs
      exact hkeep undef w hJ hΦ hs
  · intro listed a w hI hr
    obtain ⟨hsz, hcl, hdf, hts, hJ, vals, htm, hΦ⟩ := hI
    have hallL : ∀ i, i < ops.size → listed.getD i false = true := by
      intro i
      induction i using Nat.strongRecOn with
      | _ i ih =>
        intro hi
        cases hc : listed.getD i true with
        | true => simp [show i < listed.size by omega] at hc ⊢; exact hc
        | false =>
          exfalso
          have ho : ops[i]? = some ops[i] := Array.getElem?_eq_getElem hi
          have hO := regionOk_at hok ho
          have : i ∈ Region.ready .any ops listed := mem_ready.2 ⟨hc, _, ho, fun e he hb => ih e.on (hO.edge e he hb) (by have := hO.edge e he hb; omega)⟩
          rw [hr] at this
          cases this
    have hact : a = prefixAct ops vals a0 ops.size := by
      have h1 : a.defers = (prefixAct ops vals a0 ops.size).defers := by rw [prefixAct_defers, hdf]
      have h2 : a.tmps = (prefixAct ops vals a0 ops.size).tmps := by
        apply Array.ext_getElem?
        intro t
        by_cases ht : t < a0.tmps.size
        · by_cases hw : ∀ k : Nat, (ops[k]?).bind (·.dst) ≠ some t
          · rw [(htm t ht).2 hw, prefixAct_none vals a0 _ t hw]
          · have hw' : ∃ k : Nat, (ops[k]?).bind (·.dst) = some t := Classical.byContradiction fun hc => hw fun k hk => hc ⟨k, hk⟩
            obtain ⟨k, hk⟩ := hw'
            cases hok' : ops[k]? with
            | none => rw [hok'] at hk; cases hk
            | some ok =>
              have hd : ok.dst = some t := by rw [hok'] at hk; exact hk
              have hkl : k < ops.size := (Array.getElem?_eq_some_iff.1 hok').1
              rw [(htm t ht).1 k ok hok' hd, prefixAct_at vals a0 _ t k hk (fun j hj => uniq hok' hd hj) ht, hallL k hkl]
              simp [hkl]
        · rw [Array.getElem?_eq_none (by omega), Array.getElem?_eq_none (by rw [prefixAct_size]; omega)]
      cases a; cases h : prefixAct ops vals a0 ops.size
      simp_all
    rw [hact]
    exact hfin vals w hJ (fun k hk => hΦ k (hallL k hk))
  · simp [unlisted]
  · refine ⟨by simp, ?_, rfl, rfl, h0, fun _ => undef, ?_, fun k hk => ?_⟩
    · intro j oj _ hl
      rw [getD_replicate_false'] at hl
      cases hl
    · intro t ht
      refine ⟨fun k ok _ _ => ?_, fun _ => rfl⟩
      rw [getD_replicate_false']
      simp
    · rw [getD_replicate_false'] at hk
      cases hk

/-- Each operation but the last is waited for by a later one. -/
def leadsTo (ops : Array Oper) : Bool := (List.range (ops.size - 1)).all fun k => (List.range ops.size).any fun j => decide (k < j) && match ops[j]? with | none => false | some o => waitsOn o k
theorem leadsTo_at (h : leadsTo ops = true) {k : Nat} (hk : k + 1 < ops.size) : ∃ j oj, k < j ∧ ops[j]? = some oj ∧ waitsOn oj k = true := by
  have h1 := List.all_eq_true.1 h k (List.mem_range.2 (by omega))
  obtain ⟨j, _, hj⟩ := List.any_eq_true.1 h1
  simp only [Bool.and_eq_true, decide_eq_true_eq] at hj
  obtain ⟨h2, h3⟩ := hj
  cases ho : ops[j]? with
  | none => rw [ho] at h3; cases h3
  | some o => rw [ho] at h3; exact ⟨j, o, h2, ho, h3⟩
theorem wpG_take {J : World → Prop} {M : World → World → Prop} {Φ : Nat → Value → World → Prop} {n : Nat} (a0 : Act) (hn : ops.size = n + 1) (vals : Nat → Value) (h : wpG P ops J M Φ vals 0 (ops.toList.take n) a0)
    {i : Nat} {o : Oper} (hi : i < n) (ho : ops[i]? = some o) : GStep P ops J M Φ vals i o (prefixAct ops vals a0 i) := by
  have key : ∀ (rest : List Oper) (i : Nat), (∀ j, j < rest.length → rest[j]? = ops[i + j]?) → wpG P ops J M Φ vals i rest (prefixAct ops vals a0 i) → ∀ j o, i ≤ j → j < i + rest.length → ops[j]? = some o → GStep P ops J M Φ vals j o (prefixAct ops vals a0 j) := by
    intro rest
    induction rest with
    | nil => intro i _ _ j o h1 h2; simp at h2; omega
    | cons o rest ih =>
      intro i hr h j o' hij hjl ho'
      have ho : ops[i]? = some o := by simpa using (hr 0 (by simp)).symm
      by_cases hj : j = i
      · subst hj
        have : o' = o := Option.some.inj (ho'.symm.trans ho)
        subst this
        exact h.1
      · refine ih (i + 1) (fun j hj => by have := hr (j + 1) (by simp; omega); rw [show i + (j + 1) = i + 1 + j by omega] at this; simpa using this) ?_ j o' (by omega) (by simp at hjl; omega) ho'
        have h2 := h.2
        simp only [prefixAct, ho, Option.bind_some]
        exact h2
  refine key _ 0 (fun j hj => ?_) h i o (Nat.zero_le _) (by simp; omega) ho
  simp only [List.length_take, Array.length_toList] at hj
  rw [List.getElem?_take, if_pos (by omega)]
  simp

theorem any_region_L {n : Nat} {a0 : Act} {w0 : World} {ol : Oper} (J : World → Prop) (M : World → World → Prop) (Φ : Nat → Value → World → Prop)
    (hok : regionOk ops = true) (h0 : J w0.drew)
    (hM : ∀ k v w w', Φ k v w → M w w' → Φ k v w')
    (hn : ops.size = n + 1) (hol : ops[n]? = some ol) (hgl : ol.guard = none) (hlead : leadsTo ops = true)
    (hwalk : ∀ vals, wpG P ops J M Φ vals 0 (ops.toList.take n) a0)
    (hfin : ∀ vals w, J w → (∀ k, k < n → Φ k (vals k) w) → ol.wp P (prefixAct ops vals a0 n) w (Q .normal) Q) : wpAny P .any ops Q ops.size (Array.replicate ops.size false) a0 { w0 with drawn := w0.drawn + 1 } := by
  let I : Array Bool → Act → World → Prop := fun listed a w =>
    (listed.getD n false = false ∧ listed.size = ops.size ∧ (∀ j oj, ops[j]? = some oj → listed.getD j false = true → ∀ e ∈ oj.after, Region.binds .any e = true → listed.getD e.on false = true) ∧
    a.defers = a0.defers ∧ a.tmps.size = a0.tmps.size ∧ J w ∧ ∃ vals : Nat → Value,
    (∀ t, t < a0.tmps.size → (∀ k ok, ops[k]? = some ok → ok.dst = some t → a.tmps[t]? = if listed.getD k false then some (vals k) else a0.tmps[t]?) ∧
      ((∀ k : Nat, (ops[k]?).bind (·.dst) ≠ some t) → a.tmps[t]? = a0.tmps[t]?)) ∧ (∀ k, listed.getD k false = true → Φ k (vals k) w)) ∨ (Region.ready .any ops listed = [] ∧ Q .normal a w)
  have uniq : ∀ {t k k' : Nat} {ok : Oper}, ops[k]? = some ok → ok.dst = some t → (ops[k']?).bind (·.dst) = some t → k' = k := by
    intro t k k' ok hk hd hb
    cases hk' : ops[k']? with
    | none => rw [hk'] at hb; cases hb
    | some ok' =>
      rw [hk'] at hb
      by_cases e : k' = k
      · exact e
      · exact absurd hb ((regionOk_at hok hk').dst k ok t (fun x => e x.symm) hk hd)
  refine wpAny_inv I ?_ ?_ ops.size _ _ _ ?_ ?_
  · intro listed a w i hI hi
    rcases hI with hI | ⟨hr, _⟩
    case inr => rw [hr] at hi; cases hi
    obtain ⟨hln, hsz, hcl, hdf, hts, hJ, vals, htm, hΦ⟩ := hI
    obtain ⟨hun, o, ho, hall⟩ := mem_ready.1 hi
    have hilt := ready_lt hi
    by_cases hin : i = n
    case pos =>
      subst hin
      obtain rfl : o = ol := Option.some.inj (ho.symm.trans hol)
      -- all others have come up
      have hothers : ∀ d k, k + d = i → k < i → listed.getD k false = true := by
        intro d
        induction d using Nat.strongRecOn with
        | _ d ih =>
          intro k hkd hk
          obtain ⟨j, oj, hkj, hj, hw⟩ := leadsTo_at hlead (k := k) (by omega)
          obtain ⟨e, he, hb, hon⟩ := waitsOn_spec hw
          have hjl : j < ops.size := (Array.getElem?_eq_some_iff.1 hj).1
          by_cases hji : j = i
          · subst hji
            have : oj = o := Option.some.inj (hj.symm.trans ho)
            subst this
            have := hall e he hb
            rwa [hon] at this
          · have := hcl j oj hj (ih (i - j) (by omega) j (by omega) (by omega)) e he hb
            rwa [hon] at this
      have hact : a = prefixAct ops vals a0 i := by
        have h1 : a.defers = (prefixAct ops vals a0 i).defers := by rw [prefixAct_defers, hdf]
        have h2 : a.tmps = (prefixAct ops vals a0 i).tmps := by
          apply Array.ext_getElem?
          intro t
          by_cases ht : t < a0.tmps.size
          · by_cases hw : ∀ k : Nat, (ops[k]?).bind (·.dst) ≠ some t
            · rw [(htm t ht).2 hw, prefixAct_none vals a0 _ t hw]
            · have hw' : ∃ k : Nat, (ops[k]?).bind (·.dst) = some t := Classical.byContradiction fun hc => hw fun k hk => hc ⟨k, hk⟩
              obtain ⟨k, hk⟩ := hw'
              cases hok' : ops[k]? with
              | none => rw [hok'] at hk; cases hk
              | some ok =>
                have hd : ok.dst = some t := by rw [hok'] at hk; exact hk
                have hkl : k < ops.size := (Array.getElem?_eq_some_iff.1 hok').1
                rw [(htm t ht).1 k ok hok' hd, prefixAct_at vals a0 _ t k hk (fun j hj => uniq hok' hd hj) ht]
                by_cases hki : k = i
                · subst hki; simp [hln]
                · rw [hothers (i - k) k (by omega) (by omega)]
                  simp [show k < i by omega]
          · rw [Array.getElem?_eq_none (by omega), Array.getElem?_eq_none (by rw [prefixAct_size]; omega)]
        cases a; cases h : prefixAct ops vals a0 i
        simp_all
      have hf := hfin vals w hJ (fun k hk => hΦ k (hothers (i - k) k (by omega) hk))
      have hempty : Region.ready .any ops (listed.setIfInBounds i true) = [] := by
        apply List.eq_nil_iff_forall_not_mem.2
        intro j hj
        obtain ⟨h1, _⟩ := mem_ready.1 hj
        have hjl := ready_lt hj
        by_cases hji : i = j
        · subst hji
          simp [show i < listed.size by omega] at h1
        · have h2 := getD_both' h1
          rw [getD_set_ne false hji, hothers (i - j) j (by omega) (by omega)] at h2
          cases h2
      unfold wpOp
      simp only [ho]
      have hw : Region.wanted o (yielded ops a.tmps) = true := by simp [Region.wanted, hgl]
      rw [if_pos hw]
      refine .inl ?_
      rw [hact]
      unfold Oper.wp at hf ⊢
      generalize (execOp (prefixAct ops vals a0 i).eval o).run P w = r at hf ⊢
      cases r with
      | ok nx w' =>
        cases nx <;> simp only [Oper.upon] at hf ⊢
        all_goals first
          | exact .inr ⟨hempty, hf⟩
          | exact hf.mono (fun e w'' h => by cases e <;> first | exact .inr ⟨hempty, h⟩ | exact h)
          | exact hf.mono (fun v w'' h => .inr ⟨hempty, h⟩)
          | exact hf
      | halt x w' => cases x <;> simp only [Oper.upon] at hf ⊢ <;> first | exact hf | exact hf.elim
    have hO := regionOk_at hok ho
    have hslot : ∀ t : Nat, t ∈ o.looksAt ops → a.tmps[t]? = (prefixAct ops vals a0 i).tmps[t]? := by
      intro t ht
      by_cases hts0 : t < a0.tmps.size
      · exact show a.tmps[t]? = (prefixAct ops vals a0 i).tmps[t]? from by
          by_cases hw : ∀ k : Nat, (ops[k]?).bind (·.dst) ≠ some t
          · rw [(htm t hts0).2 hw, prefixAct_none vals a0 i t hw]
          · have hw' : ∃ k : Nat, (ops[k]?).bind (·.dst) = some t := Classical.byContradiction fun hc => hw fun k hk => hc ⟨k, hk⟩
            obtain ⟨k, hk⟩ := hw'
            cases hok' : ops[k]? with
            | none => rw [hok'] at hk; cases hk
            | some ok =>
              have hd : ok.dst = some t := by rw [hok'] at hk; exact hk
              rw [(htm t hts0).1 k ok hok' hd, prefixAct_at vals a0 i t k hk (fun j hj => uniq hok' hd hj) hts0]
              by_cases hki : k = i
              · subst hki
                have : listed.getD k false = false := getD_both' hun
                simp [this]
              · have hl := hO.look k ok t hki hok' hd ht
                by_cases hlt : k < i
                · rw [if_pos hlt] at hl
                  obtain ⟨e, he, hb, hon⟩ := waitsOn_spec hl
                  have := hall e he hb
                  rw [hon] at this
                  simp [this, hlt]
                · rw [if_neg hlt] at hl
                  obtain ⟨e, he, hb, hon⟩ := waitsOn_spec hl
                  have hnl : listed.getD k false = false := by
                    cases hc : listed.getD k false with
                    | false => rfl
                    | true =>
                      have := hcl k ok hok' hc e he hb
                      rw [hon, getD_both' hun] at this
                      cases this
                  simp [hnl, hlt]
      · have h1 : a.tmps[t]? = none := Array.getElem?_eq_none (by omega)
        have h2 : (prefixAct ops vals a0 i).tmps[t]? = none := Array.getElem?_eq_none (by rw [prefixAct_size]; omega)
        rw [h1, h2]
    have hexec : execOp a.eval o = execOp (prefixAct ops vals a0 i).eval o := by
      refine execOp_congr o hO.sel fun x hx => ?_
      cases x with
      | tmp t =>
        show a.tmps.getD t undef = (prefixAct ops vals a0 i).tmps.getD t undef
        rw [Array.getD_eq_getD_getElem?, Array.getD_eq_getD_getElem?, hslot t ?_]
        unfold Oper.looksAt
        refine List.mem_append_left _ ?_
        exact List.mem_filterMap.2 ⟨.tmp t, by simpa using hx, rfl⟩
      | _ => rfl
    have hwant : Region.wanted o (yielded ops a.tmps) = Region.wanted o (yielded ops (prefixAct ops vals a0 i).tmps) := by
      unfold Region.wanted
      cases hg : o.guard with
      | none => rfl
      | some gw =>
        obtain ⟨g, want⟩ := gw
        obtain ⟨d, hd⟩ := hO.gd g want hg
        have hdl : d ∈ o.looksAt ops := by
          unfold Oper.looksAt
          refine List.mem_append_right _ ?_
          simp [hg, hd]
        have := hslot d hdl
        simp [yielded, hd, this]
    have hkeep : ∀ (v : Value) (w' : World), J w' → (∀ k, listed.getD k false = true → Φ k (vals k) w') → Φ i v w' → I (listed.setIfInBounds i true) (a.put o.dst v) w' := by
      intro v w' hJ' hΦ' hv
      have hli : listed.getD i false = false := getD_both' hun
      refine .inl ⟨by rw [getD_set_ne false hin]; exact hln, by simp [hsz], ?_, ?_, by rw [Act.put_size]; exact hts, hJ', fun k => if k = i then v else vals k, ?_, ?_⟩
      · intro j oj hj hl e he hb
        by_cases hij : i = j
        · subst hij
          have : oj = o := Option.some.inj (hj.symm.trans ho)
          subst this
          exact getD_set_true (hall e he hb)
        · rw [getD_set_ne false hij] at hl
          exact getD_set_true (hcl j oj hj hl e he hb)
      · cases o.dst <;> simp [Act.put, hdf]
      · intro t ht
        refine ⟨fun k ok hk hd => ?_, fun hw => ?_⟩
        · rw [Act.put_getElem]
          by_cases hki : k = i
          · subst hki
            have : ok = o := Option.some.inj (hk.symm.trans ho)
            subst this
            have hs : (listed.setIfInBounds k true).getD k false = true := by
              simp [show k < listed.size by omega]
            simp [hd, hts, ht, hs]
          · have hne : ¬ (o.dst = some t ∧ t < a.tmps.size) := fun hc => hO.dst k ok t hki hk hd hc.1
            rw [if_neg hne, (htm t ht).1 k ok hk hd, getD_set_ne false (fun x => hki x.symm)]
            simp only [if_neg hki]
        · rw [Act.put_getElem]
          have hne : ¬ (o.dst = some t ∧ t < a.tmps.size) := fun hc => hw i (by simp [ho, hc.1])
          rw [if_neg hne]
          exact (htm t ht).2 hw
      · intro k hk
        by_cases hki : k = i
        · subst hki; simpa using hv
        · rw [getD_set_ne false (fun x => hki x.symm)] at hk
          simpa [hki] using hΦ' k hk
    have hs := (wpG_take a0 hn vals (hwalk vals) (by omega) ho).out w hJ (fun k _ hk => by
      obtain ⟨e, he, hb, hon⟩ := waitsOn_spec hk
      have := hall e he hb
      rw [hon] at this
      exact hΦ k this)
    unfold wpOp
    simp only [ho]
    rw [hwant]
    split
    · rename_i hwn
      rw [if_pos hwn, ← hexec] at hs
      refine .inl ?_
      unfold Oper.wp
      generalize (execOp a.eval o).run P w = r at hs ⊢
      cases r with
      | ok n w' =>
        cases n <;> simp only [GUpon] at hs <;> simp only [Oper.upon]
        case value u => exact hkeep u w' hs.1 (fun k hk => hM k _ w w' (hΦ k hk) hs.2.1) hs.2.2
        case skip => exact hkeep undef w' hs.1 (fun k hk => hM k _ w w' (hΦ k hk) hs.2.1) hs.2.2
        case enter f args =>
          refine hs.mono fun e w'' ⟨u, he, hn⟩ => ?_
          subst he
          exact hkeep u w'' hn.1 (fun k hk => hM k _ w w'' (hΦ k hk) hn.2.1) hn.2.2
      | halt x w' => simp only [GUpon] at hs
    · rename_i hwn
      rw [if_neg hwn] at hs
      exact hkeep undef w hJ hΦ hs
  · intro listed a w hI hr
    rcases hI with hI | ⟨_, hq⟩
    case inr => exact hq
    exfalso
    obtain ⟨hln, hsz, hcl, _⟩ := hI
    have hallL : ∀ i, i < ops.size → listed.getD i false = true := by
      intro i
      induction i using Nat.strongRecOn with
      | _ i ih =>
        intro hi
        cases hc : listed.getD i true with
        | true => simp [show i < listed.size by omega] at hc ⊢; exact hc
        | false =>
          exfalso
          have ho : ops[i]? = some ops[i] := Array.getElem?_eq_getElem hi
          have hO := regionOk_at hok ho
          have : i ∈ Region.ready .any ops listed := mem_ready.2 ⟨hc, _, ho, fun e he hb => ih e.on (hO.edge e he hb) (by have := hO.edge e he hb; omega)⟩
          rw [hr] at this
          cases this
    rw [hallL n (by omega)] at hln
    cases hln
  · simp [unlisted]
  · refine .inl ⟨getD_replicate_false' _ _, by simp, ?_, rfl, rfl, h0, fun _ => undef, ?_, fun k hk => ?_⟩
    · intro j oj _ hl
      rw [getD_replicate_false'] at hl
      cases hl
    · intro t ht
      refine ⟨fun k ok _ _ => ?_, fun _ => rfl⟩
      rw [getD_replicate_false']
      simp
    · rw [getD_replicate_false'] at hk
      cases hk

/-- A step of the walk: a value; a call; a value that hangs on the world. -/
theorem wp_region_L {id n : Nat} {a0 : Act} {w0 : World} {ol : Oper} (J : World → Prop) (M : World → World → Prop) (Φ : Nat → Value → World → Prop)
    (hm : P.follows .mixedOrders = true) (hok : regionOk ops = true) (h0 : J w0.drew)
    (hM : ∀ k v w w', Φ k v w → M w w' → Φ k v w')
    (hn : ops.size = n + 1) (hol : ops[n]? = some ol) (hgl : ol.guard = none) (hlead : leadsTo ops = true)
    (hwalk : ∀ vals, wpG P ops J M Φ vals 0 (ops.toList.take n) a0)
    (hfin : ∀ vals w, J w → (∀ k, k < n → Φ k (vals k) w) → ol.wp P (prefixAct ops vals a0 n) w (Q .normal) Q) : (Code.region id ops true).wp P Q a0 w0 :=
  wp_region_any hm (any_region_L J M Φ hok h0 hM hn hol hgl hlead hwalk hfin)
theorem gval {J : World → Prop} {M : World → World → Prop} {Φ : Nat → Value → World → Prop} {vals : Nat → Value} {i : Nat} {o : Oper} {a : Act} (c : Value) (hM : ∀ w, M w w)
    (h : ∀ w, J w → (∀ k, k < ops.size → waitsOn o k = true → Φ k (vals k) w) → Region.wanted o (yielded ops a.tmps) = true ∧ (execOp a.eval o).run P w = .ok (.value c) w ∧ Φ i c w) : GStep P ops J M Φ vals i o a := by
  refine ⟨fun w hJ hd => ?_⟩
  obtain ⟨h1, h2, h3⟩ := h w hJ hd
  rw [if_pos h1, h2]
  exact ⟨hJ, hM w, h3⟩
theorem gcall {J : World → Prop} {M : World → World → Prop} {Φ : Nat → Value → World → Prop} {vals : Nat → Value} {i : Nat} {o : Oper} {a : Act} (f : FuncId) (args : Array Value)
    (h : ∀ w, J w → (∀ k, k < ops.size → waitsOn o k = true → Φ k (vals k) w) → Region.wanted o (yielded ops a.tmps) = true ∧ (execOp a.eval o).run P w = .ok (.enter f args) w ∧
      Calls P f args w fun e w'' => ∃ u, e = .returned u ∧ J w'' ∧ M w w'' ∧ Φ i u w'') : GStep P ops J M Φ vals i o a := by
  refine ⟨fun w hJ hd => ?_⟩
  obtain ⟨h1, h2, h3⟩ := h w hJ hd
  rw [if_pos h1, h2]
  exact h3
theorem gskip {J : World → Prop} {M : World → World → Prop} {Φ : Nat → Value → World → Prop} {vals : Nat → Value} {i : Nat} {o : Oper} {a : Act}
    (h : ∀ w, J w → (∀ k, k < ops.size → waitsOn o k = true → Φ k (vals k) w) → Region.wanted o (yielded ops a.tmps) = false ∧ Φ i undef w) : GStep P ops J M Φ vals i o a := by
  refine ⟨fun w hJ hd => ?_⟩
  obtain ⟨h1, h3⟩ := h w hJ hd
  rw [if_neg (by rw [h1]; simp)]
  exact h3
theorem gop {J : World → Prop} {M : World → World → Prop} {Φ : Nat → Value → World → Prop} {vals : Nat → Value} {i : Nat} {o : Oper} {a : Act} (m : Sem Value) (c : Value) (hM : ∀ w, M w w)
    (h : ∀ w, J w → (∀ k, k < ops.size → waitsOn o k = true → Φ k (vals k) w) → Region.wanted o (yielded ops a.tmps) = true ∧ execOp a.eval o = (do let r ← m; pure (.value r)) ∧ m.run P w = .ok c w ∧ Φ i c w) : GStep P ops J M Φ vals i o a := by
  refine ⟨fun w hJ hd => ?_⟩
  obtain ⟨h1, h2, h3, h4⟩ := h w hJ hd
  rw [if_pos h1, h2, Sem.run_bind, h3]
  exact ⟨hJ, hM w, h4⟩
theorem run_val {m : Sem Value} {c : Value} {w w' : World} (h : m.run P w = .ok c w') : (do let r ← m; pure (Next.value r) : Sem Next).run P w = .ok (.value c) w' := by
  rw [Sem.run_bind, h]; rfl
/-- A step that makes memory. -/
theorem gmake {J : World → Prop} {M : World → World → Prop} {Φ : Nat → Value → World → Prop} {vals : Nat → Value} {i : Nat} {o : Oper} {a : Act}
    (h : ∀ w, J w → (∀ k, k < ops.size → waitsOn o k = true → Φ k (vals k) w) → Region.wanted o (yielded ops a.tmps) = true ∧ ∃ c w', (execOp a.eval o).run P w = .ok (.value c) w' ∧ J w' ∧ M w w' ∧ Φ i c w') : GStep P ops J M Φ vals i o a := by
  refine ⟨fun w hJ hd => ?_⟩
  obtain ⟨h1, c, w', h2, h3⟩ := h w hJ hd
  rw [if_pos h1, h2]
  exact h3
theorem run_unit {m : Sem Unit} {w w' : World} (h : m.run P w = .ok () w') : (do m; pure Next.skip : Sem Next).run P w = .ok .skip w' := by
  rw [Sem.run_bind, h]; rfl
/-- A store. -/
theorem gunit {J : World → Prop} {M : World → World → Prop} {Φ : Nat → Value → World → Prop} {vals : Nat → Value} {i : Nat} {o : Oper} {a : Act}
    (h : ∀ w, J w → (∀ k, k < ops.size → waitsOn o k = true → Φ k (vals k) w) → Region.wanted o (yielded ops a.tmps) = true ∧ ∃ w', (execOp a.eval o).run P w = .ok .skip w' ∧ J w' ∧ M w w' ∧ Φ i undef w') : GStep P ops J M Φ vals i o a := by
  refine ⟨fun w hJ hd => ?_⟩
  obtain ⟨h1, w', h2, h3⟩ := h w hJ hd
  rw [if_pos h1, h2]
  exact h3
/-- The frame behind a region. -/
def fillG (vals : Nat → Value) : Nat → List Oper → Act → Act
  | _, [], a => a
  | i, o :: rest, a => fillG vals (i + 1) rest (a.put o.dst (vals i))
theorem fillG_prefix (vals : Nat → Value) (a0 : Act) : ∀ (rest : List Oper) (i : Nat), (∀ j, rest[j]? = ops[i + j]?) → fillG vals i rest (prefixAct ops vals a0 i) = prefixAct ops vals a0 (i + rest.length) := by
  intro rest
  induction rest with
  | nil => intro i _; rfl
  | cons o rest ih =>
    intro i hr
    have ho : ops[i]? = some o := by simpa using (hr 0).symm
    have := ih (i + 1) (fun j => by have := hr (j + 1); rw [show i + (j + 1) = i + 1 + j by omega] at this; simpa using this)
    simp only [prefixAct, ho, Option.bind_some] at this
    simp only [fillG, List.length_cons]
    rw [this, show i + 1 + rest.length = i + (rest.length + 1) by omega]
theorem wp_region_F {id : Nat} {a0 : Act} {w0 : World} (J : World → Prop) (M : World → World → Prop) (Φ : Nat → Value → World → Prop)
    (hm : P.follows .mixedOrders = true) (hok : regionOk ops = true) (h0 : J w0.drew)
    (hM : ∀ k v w w', Φ k v w → M w w' → Φ k v w')
    (hwalk : ∀ vals, wpG P ops J M Φ vals 0 ops.toList a0)
    (hfin : ∀ vals w, J w → (∀ k, k < ops.size → Φ k (vals k) w) → Q .normal (fillG vals 0 ops.toList a0) w) : (Code.region id ops true).wp P Q a0 w0 := by
  refine wp_region_G J M Φ hm hok h0 hM hwalk fun vals w hJ hf => ?_
  have h1 := fillG_prefix (ops := ops) vals a0 ops.toList 0 (fun j => by simp)
  simp only [prefixAct, Nat.zero_add, Array.length_toList] at h1
  rw [← h1]
  exact hfin vals w hJ hf
/-- Likewise where the last operation turns the state: it comes last whatever order is drawn. -/
theorem any_region_E {n : Nat} {a0 : Act} {w0 : World} {ol : Oper} (J : World → Prop) (M : World → World → Prop) (Φ : Nat → Value → World → Prop)
    (hok : regionOk ops = true) (h0 : J w0.drew)
    (hM : ∀ k v w w', Φ k v w → M w w' → Φ k v w')
    (hn : ops.size = n + 1) (hol : ops[n]? = some ol) (hgl : ol.guard = none) (hlead : leadsTo ops = true)
    (hwalk : ∀ vals, wpG P ops J M Φ vals 0 (ops.toList.take n) a0)
    (hfin : ∀ vals w, J w → (∀ k, k < n → Φ k (vals k) w) → ol.wp P (fillG vals 0 (ops.toList.take n) a0) w (Q .normal) Q) : wpAny P .any ops Q ops.size (Array.replicate ops.size false) a0 { w0 with drawn := w0.drawn + 1 } := by
  refine any_region_L J M Φ hok h0 hM hn hol hgl hlead hwalk fun vals w hJ hf => ?_
  have key : ∀ (rest : List Oper) (i : Nat), (∀ j, j < rest.length → rest[j]? = ops[i + j]?) → fillG vals i rest (prefixAct ops vals a0 i) = prefixAct ops vals a0 (i + rest.length) := by
    intro rest
    induction rest with
    | nil => intro i _; rfl
    | cons o rest ih =>
      intro i hr
      have ho : ops[i]? = some o := by simpa using (hr 0 (by simp)).symm
      have := ih (i + 1) (fun j hj => by have := hr (j + 1) (by simp; omega); rw [show i + (j + 1) = i + 1 + j by omega] at this; simpa using this)
      simp only [prefixAct, ho, Option.bind_some] at this
      simp only [fillG, List.length_cons]
      rw [this, show i + 1 + rest.length = i + (rest.length + 1) by omega]
  have h1 := key (ops.toList.take n) 0 (fun j hj => by
    simp only [List.length_take, Array.length_toList] at hj
    rw [List.getElem?_take, if_pos (by omega)]
    simp)
  simp only [prefixAct, Nat.zero_add, List.length_take, Array.length_toList, show min n ops.size = n by omega] at h1
  rw [← h1]
  exact hfin vals w hJ hf
theorem wp_region_E {id n : Nat} {a0 : Act} {w0 : World} {ol : Oper} (J : World → Prop) (M : World → World → Prop) (Φ : Nat → Value → World → Prop)
    (hm : P.follows .mixedOrders = true) (hok : regionOk ops = true) (h0 : J w0.drew)
    (hM : ∀ k v w w', Φ k v w → M w w' → Φ k v w')
    (hn : ops.size = n + 1) (hol : ops[n]? = some ol) (hgl : ol.guard = none) (hlead : leadsTo ops = true)
    (hwalk : ∀ vals, wpG P ops J M Φ vals 0 (ops.toList.take n) a0)
    (hfin : ∀ vals w, J w → (∀ k, k < n → Φ k (vals k) w) → ol.wp P (fillG vals 0 (ops.toList.take n) a0) w (Q .normal) Q) : (Code.region id ops true).wp P Q a0 w0 :=
  wp_region_any hm (any_region_E J M Φ hok h0 hM hn hol hgl hlead hwalk hfin)
/-- The last operation: a statement, a value. -/
theorem wp_last_skip {o : Oper} {a : Act} {w w' : World} {next : Act → World → Prop} {m : Sem Unit} (he : execOp a.eval o = (do m; pure Next.skip)) (h : m.run P w = .ok () w') (k : next (a.put o.dst undef) w') : o.wp P a w next Q := by
  unfold Oper.wp
  rw [he, Sem.run_bind, h]
  exact k
theorem wp_last_value {o : Oper} {a : Act} {w w' : World} {next : Act → World → Prop} {v : Value} (h : (execOp a.eval o).run P w = .ok (.value v) w') (k : next (a.put o.dst v) w') : o.wp P a w next Q := by
  unfold Oper.wp
  rw [h]
  exact k
end
end Go.Proofs.YtblbgalpkodibaaDoor
