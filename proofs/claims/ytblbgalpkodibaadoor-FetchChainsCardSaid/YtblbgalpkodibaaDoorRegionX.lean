/- A region that draws its order: one of its operations (an event) turns the state; each value by a property that the other operations keep; the last operation by hand. -/
import Derived.Test.YtblbgalpkodibaaDoorRegion
namespace Go.Proofs.YtblbgalpkodibaaDoor
open Go.RowKit

section
variable {P : Program} {ops : Array Oper} {Q : Exit → Act → World → Prop}
structure XStep (P : Program) (ops : Array Oper) (e : Nat) (J : Bool → World → Prop) (M : Nat → World → World → Prop) (Φ : Nat → Value → World → Prop) (vals : Nat → Value) (i : Nat) (o : Oper) (a : Act) : Prop where
  out : ∀ fl w, (i = e → fl = false) → (waitsOn o e = true → fl = true) → J fl w → (∀ k, k < ops.size → waitsOn o k = true → Φ k (vals k) w) →
    if Region.wanted o (yielded ops a.tmps) then GUpon P (fun v w' => J (fl || decide (i = e)) w' ∧ M i w w' ∧ Φ i v w') ((execOp a.eval o).run P w) else J (fl || decide (i = e)) w ∧ Φ i undef w
def wpX (P : Program) (ops : Array Oper) (e : Nat) (J : Bool → World → Prop) (M : Nat → World → World → Prop) (Φ : Nat → Value → World → Prop) (vals : Nat → Value) : Nat → List Oper → Act → Prop
  | _, [], _ => True
  | i, o :: rest, a => XStep P ops e J M Φ vals i o a ∧ wpX P ops e J M Φ vals (i + 1) rest (a.put o.dst (vals i))
theorem wpX_nil {J : Bool → World → Prop} {M : Nat → World → World → Prop} {Φ : Nat → Value → World → Prop} {e : Nat} {vals : Nat → Value} {i : Nat} {a : Act} : wpX P ops e J M Φ vals i [] a := trivial
theorem wpX_cons {J : Bool → World → Prop} {M : Nat → World → World → Prop} {Φ : Nat → Value → World → Prop} {e : Nat} {vals : Nat → Value} {i : Nat} {a : Act} {o : Oper} {rest : List Oper} (h : XStep P ops e J M Φ vals i o a) (k : wpX P ops e J M Φ vals (i + 1) rest (a.put o.dst (vals i))) :
    wpX P ops e J M Φ vals i (o :: rest) a := ⟨h, k⟩
theorem wpX_take {J : Bool → World → Prop} {M : Nat → World → World → Prop} {Φ : Nat → Value → World → Prop} {e : Nat} {n : Nat} (a0 : Act) (hn : ops.size = n + 1) (vals : Nat → Value) (h : wpX P ops e J M Φ vals 0 (ops.toList.take n) a0)
    {i : Nat} {o : Oper} (hi : i < n) (ho : ops[i]? = some o) : XStep P ops e J M Φ vals i o (prefixAct ops vals a0 i) := by
  have key : ∀ (rest : List Oper) (i : Nat), (∀ j, j < rest.length → rest[j]? = ops[i + j]?) → wpX P ops e J M Φ vals i rest (prefixAct ops vals a0 i) → ∀ j o, i ≤ j → j < i + rest.length → ops[j]? = some o → XStep P ops e J M Φ vals j o (prefixAct ops vals a0 j) := by
    intro rest
    induction rest with
    | nil => intro i _ _ j o h1 h2; simp at h2; omega
    | cons o rest ih =>
      intro i hr h j o' hij hjl ho'
      have ho : ops[i]? = some o := by simpa using (hr 0 (by simp)).symm
      by_cases hj : j = i
      · subst hj
        have : o' = o := Option.some.inj (ho'.symm.trans ho)
        subst this
        exact h.1
      · refine ih (i + 1) (fun j hj => by have := hr (j + 1) (by simp; omega); rw [show i + (j + 1) = i + 1 + j by omega] at this; simpa using this) ?_ j o' (by omega) (by simp at hjl; omega) ho'
        have h2 := h.2
        simp only [prefixAct, ho, Option.bind_some]
        exact h2
  refine key _ 0 (fun j hj => ?_) h i o (Nat.zero_le _) (by simp; omega) ho
  simp only [List.length_take, Array.length_toList] at hj
  rw [List.getElem?_take, if_pos (by omega)]
  simp

theorem wp_region_X {id n : Nat} {a0 : Act} {w0 : World} {ol : Oper} (e : Nat) (J : Bool → World → Prop) (M : Nat → World → World → Prop) (Φ : Nat → Value → World → Prop)
    (hm : P.follows .mixedOrders = true) (hok : regionOk ops = true) (h0 : J false w0.drew)
    (hM : ∀ i k v w w', k ≠ i → Φ k v w → M i w w' → Φ k v w') (hen : e < n)
    (hn : ops.size = n + 1) (hol : ops[n]? = some ol) (hgl : ol.guard = none) (hlead : leadsTo ops = true)
    (hwalk : ∀ vals, wpX P ops e J M Φ vals 0 (ops.toList.take n) a0)
    (hfin : ∀ vals w, J true w → (∀ k, k < n → Φ k (vals k) w) → ol.wp P (prefixAct ops vals a0 n) w (Q .normal) Q) : (Code.region id ops true).wp P Q a0 w0 := by
  refine wp_region_any hm ?_
  let I : Array Bool → Act → World → Prop := fun listed a w =>
    (listed.getD n false = false ∧ listed.size = ops.size ∧ (∀ j oj, ops[j]? = some oj → listed.getD j false = true → ∀ e ∈ oj.after, Region.binds .any e = true → listed.getD e.on false = true) ∧
    a.defers = a0.defers ∧ a.tmps.size = a0.tmps.size ∧ J (listed.getD e false) w ∧ ∃ vals : Nat → Value,
    (∀ t, t < a0.tmps.size → (∀ k ok, ops[k]? = some ok → ok.dst = some t → a.tmps[t]? = if listed.getD k false then some (vals k) else a0.tmps[t]?) ∧
      ((∀ k : Nat, (ops[k]?).bind (·.dst) ≠ some t) → a.tmps[t]? = a0.tmps[t]?)) ∧ (∀ k, listed.getD k false = true → Φ k (vals k) w)) ∨ (Region.ready .any ops listed = [] ∧ Q .normal a w)
  have uniq : ∀ {t k k' : Nat} {ok : Oper}, ops[k]? = some ok → ok.dst = some t → (ops[k']?).bind (·.dst) = some t → k' = k := by
    intro t k k' ok hk hd hb
    cases hk' : ops[k']? with
    | none => rw [hk'] at hb; cases hb
    | some ok' =>
      rw [hk'] at hb
      by_cases e : k' = k
      · exact e
      · exact absurd hb ((regionOk_at hok hk').dst k ok t (fun x => e x.symm) hk hd)
  refine wpAny_inv I ?_ ?_ ops.size _ _ _ ?_ ?_
  · intro listed a w i hI hi
    rcases hI with hI | ⟨hr, _⟩
    case inr => rw [hr] at hi; cases hi
    obtain ⟨hln, hsz, hcl, hdf, hts, hJ, vals, htm, hΦ⟩ := hI
    obtain ⟨hun, o, ho, hall⟩ := mem_ready.1 hi
    have hilt := ready_lt hi
    by_cases hin : i = n
    case pos =>
      subst hin
      obtain rfl : o = ol := Option.some.inj (ho.symm.trans hol)
      -- all others have come up
      have hothers : ∀ d k, k + d = i → k < i → listed.getD k false = true := by
        intro d
        induction d using Nat.strongRecOn with
        | _ d ih =>
          intro k hkd hk
          obtain ⟨j, oj, hkj, hj, hw⟩ := leadsTo_at hlead (k := k) (by omega)
          obtain ⟨e, he, hb, hon⟩ := waitsOn_spec hw
          have hjl : j < ops.size := (Array.getElem?_eq_some_iff.1 hj).1
          by_cases hji : j = i
          · subst hji
            have : oj = o := Option.some.inj (hj.symm.trans ho)
            subst this
            have := hall e he hb
            rwa [hon] at this
          · have := hcl j oj hj (ih (i - j) (by omega) j (by omega) (by omega)) e he hb
            rwa [hon] at this
      have hact : a = prefixAct ops vals a0 i := by
        have h1 : a.defers = (prefixAct ops vals a0 i).defers := by rw [prefixAct_defers, hdf]
        have h2 : a.tmps = (prefixAct ops vals a0 i).tmps := by
          apply Array.ext_getElem?
          intro t
          by_cases ht : t < a0.tmps.size
          · by_cases hw : ∀ k : Nat, (ops[k]?).bind (·.dst) ≠ some t
            · rw [(htm t ht).2 hw, prefixAct_none vals a0 _ t hw]
            · have hw' : ∃ k : Nat, (ops[k]?).bind (·.dst) = some t := Classical.byContradiction fun hc => hw fun k hk => hc ⟨k, hk⟩
              obtain ⟨k, hk⟩ := hw'
              cases hok' : ops[k]? with
              | none => rw [hok'] at hk; cases hk
              | some ok =>
                have hd : ok.dst = some t := by rw [hok'] at hk; exact hk
                have hkl : k < ops.size := (Array.getElem?_eq_some_iff.1 hok').1
                rw [(htm t ht).1 k ok hok' hd, prefixAct_at vals a0 _ t k hk (fun j hj => uniq hok' hd hj) ht]
                by_cases hki : k = i
                · subst hki; simp [hln]
                · rw [hothers (i - k) k (by omega) (by omega)]
                  simp [show k < i by omega]
          · rw [Array.getElem?_eq_none (by omega), Array.getElem?_eq_none (by rw [prefixAct_size]; omega)]
        cases a; cases h : prefixAct ops vals a0 i
        simp_all
      have hf := hfin vals w (by rw [← hothers (i - e) e (by omega) (by omega)]; exact hJ) (fun k hk => hΦ k (hothers (i - k) k (by omega) hk))
      have hempty : Region.ready .any ops (listed.setIfInBounds i true) = [] := by
        apply List.eq_nil_iff_forall_not_mem.2
        intro j hj
        obtain ⟨h1, _⟩ := mem_ready.1 hj
        have hjl := ready_lt hj
        by_cases hji : i = j
        · subst hji
          simp [show i < listed.size by omega] at h1
        · have h2 := getD_both' h1
          rw [getD_set_ne false hji, hothers (i - j) j (by omega) (by omega)] at h2
          cases h2
      unfold wpOp
      simp only [ho]
      have hw : Region.wanted o (yielded ops a.tmps) = true := by simp [Region.wanted, hgl]
      rw [if_pos hw]
      refine .inl ?_
      rw [hact]
      unfold Oper.wp at hf ⊢
      generalize (execOp (prefixAct ops vals a0 i).eval o).run P w = r at hf ⊢
      cases r with
      | ok nx w' =>
        cases nx <;> simp only [Oper.upon] at hf ⊢
        all_goals first
          | exact .inr ⟨hempty, hf⟩
          | exact hf.mono (fun e w'' h => by cases e <;> first | exact .inr ⟨hempty, h⟩ | exact h)
          | exact hf.mono (fun v w'' h => .inr ⟨hempty, h⟩)
          | exact hf
      | halt x w' => cases x <;> simp only [Oper.upon] at hf ⊢ <;> first | exact hf | exact hf.elim
    have hO := regionOk_at hok ho
    have hslot : ∀ t : Nat, t ∈ o.looksAt ops → a.tmps[t]? = (prefixAct ops vals a0 i).tmps[t]? := by
      intro t ht
      by_cases hts0 : t < a0.tmps.size
      · exact show a.tmps[t]? = (prefixAct ops vals a0 i).tmps[t]? from by
          by_cases hw : ∀ k : Nat, (ops[k]?).bind (·.dst) ≠ some t
          · rw [(htm t hts0).2 hw, prefixAct_none vals a0 i t hw]
          · have hw' : ∃ k : Nat, (ops[k]?).bind (·.dst) = some t := Classical.byContradiction fun hc => hw fun k hk => hc ⟨k, hk⟩
            obtain ⟨k, hk⟩ := hw'
            cases hok' : ops[k]? with
            | none => rw [hok'] at hk; cases hk
            | some ok =>
              have hd : ok.dst = some t := by rw [hok'] at hk; exact hk
              rw [(htm t hts0).1 k ok hok' hd, prefixAct_at vals a0 i t k hk (fun j hj => uniq hok' hd hj) hts0]
              by_cases hki : k = i
              · subst hki
                have : listed.getD k false = false := getD_both' hun
                simp [this]
              · have hl := hO.look k ok t hki hok' hd ht
                by_cases hlt : k < i
                · rw [if_pos hlt] at hl
                  obtain ⟨e, he, hb, hon⟩ := waitsOn_spec hl
                  have := hall e he hb
                  rw [hon] at this
                  simp [this, hlt]
                · rw [if_neg hlt] at hl
                  obtain ⟨e, he, hb, hon⟩ := waitsOn_spec hl
                  have hnl : listed.getD k false = false := by
                    cases hc : listed.getD k false with
                    | false => rfl
                    | true =>
                      have := hcl k ok hok' hc e he hb
                      rw [hon, getD_both' hun] at this
                      cases this
                  simp [hnl, hlt]
      · have h1 : a.tmps[t]? = none := Array.getElem?_eq_none (by omega)
        have h2 : (prefixAct ops vals a0 i).tmps[t]? = none := Array.getElem?_eq_none (by rw [prefixAct_size]; omega)
        rw [h1, h2]
    have hexec : execOp a.eval o = execOp (prefixAct ops vals a0 i).eval o := by
      refine execOp_congr o hO.sel fun x hx => ?_
      cases x with
      | tmp t =>
        show a.tmps.getD t undef = (prefixAct ops vals a0 i).tmps.getD t undef
        rw [Array.getD_eq_getD_getElem?, Array.getD_eq_getD_getElem?, hslot t ?_]
        unfold Oper.looksAt
        refine List.mem_append_left _ ?_
        exact List.mem_filterMap.2 ⟨.tmp t, by simpa using hx, rfl⟩
      | _ => rfl
    have hwant : Region.wanted o (yielded ops a.tmps) = Region.wanted o (yielded ops (prefixAct ops vals a0 i).tmps) := by
      unfold Region.wanted
      cases hg : o.guard with
      | none => rfl
      | some gw =>
        obtain ⟨g, want⟩ := gw
        obtain ⟨d, hd⟩ := hO.gd g want hg
        have hdl : d ∈ o.looksAt ops := by
          unfold Oper.looksAt
          refine List.mem_append_right _ ?_
          simp [hg, hd]
        have := hslot d hdl
        simp [yielded, hd, this]
    have hJS : ∀ w', J (listed.getD e false || decide (i = e)) w' → J ((listed.setIfInBounds i true).getD e false) w' := by
      intro w' h
      by_cases hie : i = e
      · subst hie
        rw [show (listed.setIfInBounds i true).getD i false = true by simp [show i < listed.size by omega]]
        simpa using h
      · rw [getD_set_ne false hie]
        simpa [hie] using h
    have hne : ∀ k, listed.getD k false = true → k ≠ i := by
      intro k hk hki
      subst hki
      rw [getD_both' hun] at hk
      cases hk
    have hkeep : ∀ (v : Value) (w' : World), J (listed.getD e false || decide (i = e)) w' → (∀ k, listed.getD k false = true → Φ k (vals k) w') → Φ i v w' → I (listed.setIfInBounds i true) (a.put o.dst v) w' := by
      intro v w' hJ' hΦ' hv
      have hli : listed.getD i false = false := getD_both' hun
      refine .inl ⟨by rw [getD_set_ne false hin]; exact hln, by simp [hsz], ?_, ?_, by rw [Act.put_size]; exact hts, hJS w' hJ', fun k => if k = i then v else vals k, ?_, ?_⟩
      · intro j oj hj hl e he hb
        by_cases hij : i = j
        · subst hij
          have : oj = o := Option.some.inj (hj.symm.trans ho)
          subst this
          exact getD_set_true (hall e he hb)
        · rw [getD_set_ne false hij] at hl
          exact getD_set_true (hcl j oj hj hl e he hb)
      · cases o.dst <;> simp [Act.put, hdf]
      · intro t ht
        refine ⟨fun k ok hk hd => ?_, fun hw => ?_⟩
        · rw [Act.put_getElem]
          by_cases hki : k = i
          · subst hki
            have : ok = o := Option.some.inj (hk.symm.trans ho)
            subst this
            have hs : (listed.setIfInBounds k true).getD k false = true := by
              simp [show k < listed.size by omega]
            simp [hd, hts, ht, hs]
          · have hne : ¬ (o.dst = some t ∧ t < a.tmps.size) := fun hc => hO.dst k ok t hki hk hd hc.1
            rw [if_neg hne, (htm t ht).1 k ok hk hd, getD_set_ne false (fun x => hki x.symm)]
            simp only [if_neg hki]
        · rw [Act.put_getElem]
          have hne : ¬ (o.dst = some t ∧ t < a.tmps.size) := fun hc => hw i (by simp [ho, hc.1])
          rw [if_neg hne]
          exact (htm t ht).2 hw
      · intro k hk
        by_cases hki : k = i
        · subst hki; simpa using hv
        · rw [getD_set_ne false (fun x => hki x.symm)] at hk
          simpa [hki] using hΦ' k hk
    have hs := (wpX_take a0 hn vals (hwalk vals) (by omega) ho).out (listed.getD e false) w (fun h => by subst h; exact getD_both' hun) (fun hk => by
      obtain ⟨e', he, hb, hon⟩ := waitsOn_spec hk
      have := hall e' he hb
      rwa [hon] at this) hJ (fun k _ hk => by
      obtain ⟨e, he, hb, hon⟩ := waitsOn_spec hk
      have := hall e he hb
      rw [hon] at this
      exact hΦ k this)
    unfold wpOp
    simp only [ho]
    rw [hwant]
    split
    · rename_i hwn
      rw [if_pos hwn, ← hexec] at hs
      refine .inl ?_
      unfold Oper.wp
      generalize (execOp a.eval o).run P w = r at hs ⊢
      cases r with
      | ok n w' =>
        cases n <;> simp only [GUpon] at hs <;> simp only [Oper.upon]
        case value u => exact hkeep u w' hs.1 (fun k hk => hM i k _ w w' (hne k hk) (hΦ k hk) hs.2.1) hs.2.2
        case skip => exact hkeep undef w' hs.1 (fun k hk => hM i k _ w w' (hne k hk) (hΦ k hk) hs.2.1) hs.2.2
        case enter f args =>
          refine hs.mono fun e w'' ⟨u, he, hn⟩ => ?_
          subst he
          exact hkeep u w'' hn.1 (fun k hk => hM i k _ w w'' (hne k hk) (hΦ k hk) hn.2.1) hn.2.2
      | halt x w' => simp only [GUpon] at hs
    · rename_i hwn
      rw [if_neg hwn] at hs
      exact hkeep undef w hs.1 hΦ hs.2
  · intro listed a w hI hr
    rcases hI with hI | ⟨_, hq⟩
    case inr => exact hq
    exfalso
    obtain ⟨hln, hsz, hcl, _⟩ := hI
    have hallL : ∀ i, i < ops.size → listed.getD i false = true := by
      intro i
      induction i using Nat.strongRecOn with
      | _ i ih =>
        intro hi
        cases hc : listed.getD i true with
        | true => simp [show i < listed.size by omega] at hc ⊢; exact hc
        | false =>
          exfalso
          have ho : ops[i]? = some ops[i] := Array.getElem?_eq_getElem hi
          have hO := regionOk_at hok ho
          have : i ∈ Region.ready .any ops listed := mem_ready.2 ⟨hc, _, ho, fun e he hb => ih e.on (hO.edge e he hb) (by have := hO.edge e he hb; omega)⟩
          rw [hr] at this
          cases this
    rw [hallL n (by omega)] at hln
    cases hln
  · simp [unlisted]
  · refine .inl ⟨getD_replicate_false' _ _, by simp, ?_, rfl, rfl, by rw [getD_replicate_false']; exact h0, fun _ => undef, ?_, fun k hk => ?_⟩
    · intro j oj _ hl
      rw [getD_replicate_false'] at hl
      cases hl
    · intro t ht
      refine ⟨fun k ok _ _ => ?_, fun _ => rfl⟩
      rw [getD_replicate_false']
      simp
    · rw [getD_replicate_false'] at hk
      cases hk

/-- Likewise where the last operation turns the state: it comes last whatever order is drawn. -/
theorem wp_region_XE {id n : Nat} {a0 : Act} {w0 : World} {ol : Oper} (e : Nat) (J : Bool → World → Prop) (M : Nat → World → World → Prop) (Φ : Nat → Value → World → Prop)
    (hm : P.follows .mixedOrders = true) (hok : regionOk ops = true) (h0 : J false w0.drew)
    (hM : ∀ i k v w w', k ≠ i → Φ k v w → M i w w' → Φ k v w') (hen : e < n)
    (hn : ops.size = n + 1) (hol : ops[n]? = some ol) (hgl : ol.guard = none) (hlead : leadsTo ops = true)
    (hwalk : ∀ vals, wpX P ops e J M Φ vals 0 (ops.toList.take n) a0)
    (hfin : ∀ vals w, J true w → (∀ k, k < n → Φ k (vals k) w) → ol.wp P (fillG vals 0 (ops.toList.take n) a0) w (Q .normal) Q) : (Code.region id ops true).wp P Q a0 w0 := by
  refine wp_region_X e J M Φ hm hok h0 hM hen hn hol hgl hlead hwalk fun vals w hJ hf => ?_
  have key : ∀ (rest : List Oper) (i : Nat), (∀ j, j < rest.length → rest[j]? = ops[i + j]?) → fillG vals i rest (prefixAct ops vals a0 i) = prefixAct ops vals a0 (i + rest.length) := by
    intro rest
    induction rest with
    | nil => intro i _; rfl
    | cons o rest ih =>
      intro i hr
      have ho : ops[i]? = some o := by simpa using (hr 0 (by simp)).symm
      have := ih (i + 1) (fun j hj => by have := hr (j + 1) (by simp; omega); rw [show i + (j + 1) = i + 1 + j by omega] at this; simpa using this)
      simp only [prefixAct, ho, Option.bind_some] at this
      simp only [fillG, List.length_cons]
      rw [this, show i + 1 + rest.length = i + (rest.length + 1) by omega]
  have h1 := key (ops.toList.take n) 0 (fun j hj => by
    simp only [List.length_take, Array.length_toList] at hj
    rw [List.getElem?_take, if_pos (by omega)]
    simp)
  simp only [prefixAct, Nat.zero_add, List.length_take, Array.length_toList, show min n ops.size = n by omega] at h1
  rw [← h1]
  exact hfin vals w hJ hf

/-- A step that is no event: a value; a value that hangs on the world; a call; new memory. -/
theorem xval {J : Bool → World → Prop} {M : Nat → World → World → Prop} {Φ : Nat → Value → World → Prop} {e : Nat} {vals : Nat → Value} {i : Nat} {o : Oper} {a : Act} (c : Value) (hM : ∀ w, M i w w) (hie : i ≠ e)
    (h : ∀ fl w, J fl w → (∀ k, k < ops.size → waitsOn o k = true → Φ k (vals k) w) → Region.wanted o (yielded ops a.tmps) = true ∧ (execOp a.eval o).run P w = .ok (.value c) w ∧ Φ i c w) : XStep P ops e J M Φ vals i o a := by
  refine ⟨fun fl w _ _ hJ hd => ?_⟩
  obtain ⟨h1, h2, h3⟩ := h fl w hJ hd
  rw [if_pos h1, h2]
  exact ⟨by simpa [hie] using hJ, hM w, h3⟩
theorem xlate {J : Bool → World → Prop} {M : Nat → World → World → Prop} {Φ : Nat → Value → World → Prop} {e : Nat} {vals : Nat → Value} {i : Nat} {o : Oper} {a : Act} (c : Value) (hM : ∀ w, M i w w) (hie : i ≠ e) (hw : waitsOn o e = true)
    (h : ∀ w, J true w → (∀ k, k < ops.size → waitsOn o k = true → Φ k (vals k) w) → Region.wanted o (yielded ops a.tmps) = true ∧ (execOp a.eval o).run P w = .ok (.value c) w ∧ Φ i c w) : XStep P ops e J M Φ vals i o a := by
  refine ⟨fun fl w _ hf hJ hd => ?_⟩
  obtain rfl := hf hw
  obtain ⟨h1, h2, h3⟩ := h w hJ hd
  rw [if_pos h1, h2]
  exact ⟨by simpa [hie] using hJ, hM w, h3⟩
theorem xop {J : Bool → World → Prop} {M : Nat → World → World → Prop} {Φ : Nat → Value → World → Prop} {e : Nat} {vals : Nat → Value} {i : Nat} {o : Oper} {a : Act} (m : Sem Value) (c : Value) (hM : ∀ w, M i w w) (hie : i ≠ e)
    (h : ∀ fl w, J fl w → (∀ k, k < ops.size → waitsOn o k = true → Φ k (vals k) w) → Region.wanted o (yielded ops a.tmps) = true ∧ execOp a.eval o = (do let r ← m; pure (.value r)) ∧ m.run P w = .ok c w ∧ Φ i c w) : XStep P ops e J M Φ vals i o a := by
  refine ⟨fun fl w _ _ hJ hd => ?_⟩
  obtain ⟨h1, h2, h3, h4⟩ := h fl w hJ hd
  rw [if_pos h1, h2, Sem.run_bind, h3]
  exact ⟨by simpa [hie] using hJ, hM w, h4⟩
theorem xmake {J : Bool → World → Prop} {M : Nat → World → World → Prop} {Φ : Nat → Value → World → Prop} {e : Nat} {vals : Nat → Value} {i : Nat} {o : Oper} {a : Act} (hie : i ≠ e)
    (h : ∀ fl w, J fl w → (∀ k, k < ops.size → waitsOn o k = true → Φ k (vals k) w) → Region.wanted o (yielded ops a.tmps) = true ∧ ∃ c w', (execOp a.eval o).run P w = .ok (.value c) w' ∧ J fl w' ∧ M i w w' ∧ Φ i c w') : XStep P ops e J M Φ vals i o a := by
  refine ⟨fun fl w _ _ hJ hd => ?_⟩
  obtain ⟨h1, c, w', h2, h3, h4⟩ := h fl w hJ hd
  rw [if_pos h1, h2]
  exact ⟨by simpa [hie] using h3, h4⟩
/-- The event: it makes a value; it stores. -/
theorem xevent {J : Bool → World → Prop} {M : Nat → World → World → Prop} {Φ : Nat → Value → World → Prop} {e : Nat} {vals : Nat → Value} {i : Nat} {o : Oper} {a : Act} (hie : i = e)
    (h : ∀ w, J false w → (∀ k, k < ops.size → waitsOn o k = true → Φ k (vals k) w) → Region.wanted o (yielded ops a.tmps) = true ∧ ∃ c w', (execOp a.eval o).run P w = .ok (.value c) w' ∧ J true w' ∧ M i w w' ∧ Φ i c w') : XStep P ops e J M Φ vals i o a := by
  refine ⟨fun fl w hf _ hJ hd => ?_⟩
  obtain rfl := hf hie
  obtain ⟨h1, c, w', h2, h3, h4⟩ := h w hJ hd
  rw [if_pos h1, h2]
  exact ⟨by simpa [hie] using h3, h4⟩
theorem xstore {J : Bool → World → Prop} {M : Nat → World → World → Prop} {Φ : Nat → Value → World → Prop} {e : Nat} {vals : Nat → Value} {i : Nat} {o : Oper} {a : Act} (hie : i = e)
    (h : ∀ w, J false w → (∀ k, k < ops.size → waitsOn o k = true → Φ k (vals k) w) → Region.wanted o (yielded ops a.tmps) = true ∧ ∃ w', (execOp a.eval o).run P w = .ok .skip w' ∧ J true w' ∧ M i w w' ∧ Φ i undef w') : XStep P ops e J M Φ vals i o a := by
  refine ⟨fun fl w hf _ hJ hd => ?_⟩
  obtain rfl := hf hie
  obtain ⟨h1, w', h2, h3, h4⟩ := h w hJ hd
  rw [if_pos h1, h2]
  exact ⟨by simpa [hie] using h3, h4⟩
theorem xcall {J : Bool → World → Prop} {M : Nat → World → World → Prop} {Φ : Nat → Value → World → Prop} {e : Nat} {vals : Nat → Value} {i : Nat} {o : Oper} {a : Act} (hie : i = e) (f : FuncId) (args : Array Value)
    (h : ∀ w, J false w → (∀ k, k < ops.size → waitsOn o k = true → Φ k (vals k) w) → Region.wanted o (yielded ops a.tmps) = true ∧ (execOp a.eval o).run P w = .ok (.enter f args) w ∧
      Calls P f args w fun e w'' => ∃ u, e = .returned u ∧ J true w'' ∧ M i w w'' ∧ Φ i u w'') : XStep P ops e J M Φ vals i o a := by
  refine ⟨fun fl w hf _ hJ hd => ?_⟩
  obtain rfl := hf hie
  obtain ⟨h1, h2, h3⟩ := h w hJ hd
  rw [if_pos h1, h2]
  refine h3.mono fun e' w'' ⟨u, he, h4, h5⟩ => ⟨u, he, by simpa [hie] using h4, h5⟩
end
end Go.Proofs.YtblbgalpkodibaaDoor
