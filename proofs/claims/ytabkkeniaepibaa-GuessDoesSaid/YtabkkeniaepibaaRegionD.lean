/- A region that draws its order, each value known by a property that later steps keep, and of two values how they stand to each other. -/
import Derived.Test.YtabkkeniaepibaaRegion
namespace Go.Proofs.Ytabkkeniaepibaa
open Go.RowKit

section
variable {P : Program} {ops : Array Oper} {Q : Exit → Act → World → Prop}
/-- How a new value stands to one that has come up: by what is known of that one, and of those that it was made of. -/
def Stand (ops : Array Oper) (Φ : Nat → Value → World → Prop) (D : Nat → Nat → Value → Value → Prop) (vals : Nat → Value) (i : Nat) (o : Oper) (w : World) (v : Value) : Prop :=
  ∀ l u, l ≠ i → Φ l u w → (∀ k, k < ops.size → waitsOn o k = true → k ≠ l → D k l (vals k) u ∧ D l k u (vals k)) → D i l v u ∧ D l i u v
structure DStep (P : Program) (ops : Array Oper) (J : World → Prop) (M : World → World → Prop) (Φ : Nat → Value → World → Prop) (D : Nat → Nat → Value → Value → Prop) (vals : Nat → Value) (i : Nat) (o : Oper) (a : Act) : Prop where
  out : ∀ w, J w → (∀ k, k < ops.size → waitsOn o k = true → Φ k (vals k) w) → (∀ k l, k < ops.size → l < ops.size → waitsOn o k = true → waitsOn o l = true → k ≠ l → D k l (vals k) (vals l)) →
    if Region.wanted o (yielded ops a.tmps) then GUpon P (fun v w' => J w' ∧ M w w' ∧ Φ i v w' ∧ Stand ops Φ D vals i o w v) ((execOp a.eval o).run P w) else Φ i undef w ∧ Stand ops Φ D vals i o w undef
def wpD (P : Program) (ops : Array Oper) (J : World → Prop) (M : World → World → Prop) (Φ : Nat → Value → World → Prop) (D : Nat → Nat → Value → Value → Prop) (vals : Nat → Value) : Nat → List Oper → Act → Prop
  | _, [], _ => True
  | i, o :: rest, a => DStep P ops J M Φ D vals i o a ∧ wpD P ops J M Φ D vals (i + 1) rest (a.put o.dst (vals i))
theorem wpD_nil {J : World → Prop} {M : World → World → Prop} {Φ : Nat → Value → World → Prop} {D : Nat → Nat → Value → Value → Prop} {vals : Nat → Value} {i : Nat} {a : Act} : wpD P ops J M Φ D vals i [] a := trivial
theorem wpD_cons {J : World → Prop} {M : World → World → Prop} {Φ : Nat → Value → World → Prop} {D : Nat → Nat → Value → Value → Prop} {vals : Nat → Value} {i : Nat} {a : Act} {o : Oper} {rest : List Oper} (h : DStep P ops J M Φ D vals i o a) (k : wpD P ops J M Φ D vals (i + 1) rest (a.put o.dst (vals i))) :
    wpD P ops J M Φ D vals i (o :: rest) a := ⟨h, k⟩
theorem wpD_at {J : World → Prop} {M : World → World → Prop} {Φ : Nat → Value → World → Prop} {D : Nat → Nat → Value → Value → Prop} {vals : Nat → Value} (a0 : Act) : ∀ (rest : List Oper) (i : Nat), (∀ j, rest[j]? = ops[i + j]?) → wpD P ops J M Φ D vals i rest (prefixAct ops vals a0 i) →
    ∀ j o, i ≤ j → ops[j]? = some o → DStep P ops J M Φ D vals j o (prefixAct ops vals a0 j) := by
  intro rest
  induction rest with
  | nil =>
    intro i hr _ j o hij ho
    have := hr (j - i)
    rw [show i + (j - i) = j by omega, ho] at this
    simp at this
  | cons o rest ih =>
    intro i hr h j o' hij ho'
    have ho : ops[i]? = some o := by simpa using (hr 0).symm
    by_cases hj : j = i
    · subst hj
      have : o' = o := Option.some.inj (ho'.symm.trans ho)
      subst this
      exact h.1
    · refine ih (i + 1) (fun j => by have := hr (j + 1); rw [show i + (j + 1) = i + 1 + j by omega] at this; simpa using this) ?_ j o' (by omega) ho'
      have h2 := h.2
      simp only [prefixAct, ho, Option.bind_some]
      exact h2
theorem wp_region_D {id : Nat} {a0 : Act} {w0 : World} (J : World → Prop) (M : World → World → Prop) (Φ : Nat → Value → World → Prop) (D : Nat → Nat → Value → Value → Prop)
    (hm : P.follows .mixedOrders = true) (hok : regionOk ops = true) (h0 : J w0.drew)
    (hM : ∀ k v w w', Φ k v w → M w w' → Φ k v w')
    (hwalk : ∀ vals, wpD P ops J M Φ D vals 0 ops.toList a0)
    (hfin : ∀ vals w, J w → (∀ k, k < ops.size → Φ k (vals k) w) → (∀ k l, k < ops.size → l < ops.size → k ≠ l → D k l (vals k) (vals l)) → Q .normal (prefixAct ops vals a0 ops.size) w) : (Code.region id ops true).wp P Q a0 w0 := by
  refine wp_region_any hm ?_
  let I : Array Bool → Act → World → Prop := fun listed a w =>
    listed.size = ops.size ∧ (∀ j oj, ops[j]? = some oj → listed.getD j false = true → ∀ e ∈ oj.after, Region.binds .any e = true → listed.getD e.on false = true) ∧
    a.defers = a0.defers ∧ a.tmps.size = a0.tmps.size ∧ J w ∧ ∃ vals : Nat → Value,
    (∀ t, t < a0.tmps.size → (∀ k ok, ops[k]? = some ok → ok.dst = some t → a.tmps[t]? = if listed.getD k false then some (vals k) else a0.tmps[t]?) ∧
      ((∀ k : Nat, (ops[k]?).bind (·.dst) ≠ some t) → a.tmps[t]? = a0.tmps[t]?)) ∧ (∀ k, listed.getD k false = true → Φ k (vals k) w) ∧ (∀ k l, listed.getD k false = true → listed.getD l false = true → k ≠ l → D k l (vals k) (vals l))
  have uniq : ∀ {t k k' : Nat} {ok : Oper}, ops[k]? = some ok → ok.dst = some t → (ops[k']?).bind (·.dst) = some t → k' = k := by
    intro t k k' ok hk hd hb
    cases hk' : ops[k']? with
    | none => rw [hk'] at hb; cases hb
    | some ok' =>
      rw [hk'] at hb
      by_cases e : k' = k
      · exact e
      · exact absurd hb ((regionOk_at hok hk').dst k ok t (fun x => e x.symm) hk hd)
  refine wpAny_inv I ?_ ?_ ops.size _ _ _ ?_ ?_
  · intro listed a w i hI hi
    obtain ⟨hsz, hcl, hdf, hts, hJ, vals, htm, hΦ, hD⟩ := hI
    obtain ⟨hun, o, ho, hall⟩ := mem_ready.1 hi
    have hilt := ready_lt hi
    have hO := regionOk_at hok ho
    have hslot : ∀ t : Nat, t ∈ o.looksAt ops → a.tmps[t]? = (prefixAct ops vals a0 i).tmps[t]? := by
      intro t ht
      by_cases hts0 : t < a0.tmps.size
      · exact show a.tmps[t]? = (prefixAct ops vals a0 i).tmps[t]? from by
          by_cases hw : ∀ k : Nat, (ops[k]?).bind (·.dst) ≠ some t
          · rw [(htm t hts0).2 hw, prefixAct_none vals a0 i t hw]
          · have hw' : ∃ k : Nat, (ops[k]?).bind (·.dst) = some t := Classical.byContradiction fun hc => hw fun k hk => hc ⟨k, hk⟩
            obtain ⟨k, hk⟩ := hw'
            cases hok' : ops[k]? with
            | none => rw [hok'] at hk; cases hk
            | some ok =>
              have hd : ok.dst = some t := by rw [hok'] at hk; exact hk
              rw [(htm t hts0).1 k ok hok' hd, prefixAct_at vals a0 i t k hk (fun j hj => uniq hok' hd hj) hts0]
              by_cases hki : k = i
              · subst hki
                have : listed.getD k false = false := getD_both' hun
                simp [this]
              · have hl := hO.look k ok t hki hok' hd ht
                by_cases hlt : k < i
                · rw [if_pos hlt] at hl
                  obtain ⟨e, he, hb, hon⟩ := waitsOn_spec hl
                  have := hall e he hb
                  rw [hon] at this
                  simp [this, hlt]
                · rw [if_neg hlt] at hl
                  obtain ⟨e, he, hb, hon⟩ := waitsOn_spec hl
                  have hnl : listed.getD k false = false := by
                    cases hc : listed.getD k false with
                    | false => rfl
                    | true =>
                      have := hcl k ok hok' hc e he hb
                      rw [hon, getD_both' hun] at this
                      cases this
                  simp [hnl, hlt]
      · have h1 : a.tmps[t]? = none := Array.getElem?_eq_none (by omega)
        have h2 : (prefixAct ops vals a0 i).tmps[t]? = none := Array.getElem?_eq_none (by rw [prefixAct_size]; omega)
        rw [h1, h2]
    have hexec : execOp a.eval o = execOp (prefixAct ops vals a0 i).eval o := by
      refine execOp_congr o hO.sel fun x hx => ?_
      cases x with
      | tmp t =>
        show a.tmps.getD t undef = (prefixAct ops vals a0 i).tmps.getD t undef
        rw [Array.getD_eq_getD_getElem?, Array.getD_eq_getD_getElem?, hslot t ?_]
        unfold Oper.looksAt
        refine List.mem_append_left _ ?_
        exact List.mem_filterMap.2 ⟨.tmp t, by simpa using hx, rfl⟩
      | _ => rfl
    have hwant : Region.wanted o (yielded ops a.tmps) = Region.wanted o (yielded ops (prefixAct ops vals a0 i).tmps) := by
      unfold Region.wanted
      cases hg : o.guard with
      | none => rfl
      | some gw =>
        obtain ⟨g, want⟩ := gw
        obtain ⟨d, hd⟩ := hO.gd g want hg
        have hdl : d ∈ o.looksAt ops := by
          unfold Oper.looksAt
          refine List.mem_append_right _ ?_
          simp [hg, hd]
        have := hslot d hdl
        simp [yielded, hd, this]
    have hkeep : ∀ (v : Value) (w' : World), J w' → (∀ k, listed.getD k false = true → Φ k (vals k) w') → Φ i v w' → (∀ l, l ≠ i → listed.getD l false = true → D i l v (vals l) ∧ D l i (vals l) v) → I (listed.setIfInBounds i true) (a.put o.dst v) w' := by
      intro v w' hJ' hΦ' hv hd'
      have hli : listed.getD i false = false := getD_both' hun
      refine ⟨by simp [hsz], ?_, ?_, by rw [Act.put_size]; exact hts, hJ', fun k => if k = i then v else vals k, ?_, ?_, ?_⟩
      · intro j oj hj hl e he hb
        by_cases hij : i = j
        · subst hij
          have : oj = o := Option.some.inj (hj.symm.trans ho)
          subst this
          exact getD_set_true (hall e he hb)
        · rw [getD_set_ne false hij] at hl
          exact getD_set_true (hcl j oj hj hl e he hb)
      · cases o.dst <;> simp [Act.put, hdf]
      · intro t ht
        refine ⟨fun k ok hk hd => ?_, fun hw => ?_⟩
        · rw [Act.put_getElem]
          by_cases hki : k = i
          · subst hki
            have : ok = o := Option.some.inj (hk.symm.trans ho)
            subst this
            have hs : (listed.setIfInBounds k true).getD k false = true := by
              simp [show k < listed.size by omega]
            simp [hd, hts, ht, hs]
          · have hne : ¬ (o.dst = some t ∧ t < a.tmps.size) := fun hc => hO.dst k ok t hki hk hd hc.1
            rw [if_neg hne, (htm t ht).1 k ok hk hd, getD_set_ne false (fun x => hki x.symm)]
            simp only [if_neg hki]
        · rw [Act.put_getElem]
          have hne : ¬ (o.dst = some t ∧ t < a.tmps.size) := fun hc => hw i (by simp [ho, hc.1])
          rw [if_neg hne]
          exact (htm t ht).2 hw
      · intro k hk
        by_cases hki : k = i
        · subst hki; simpa using hv
        · rw [getD_set_ne false (fun x => hki x.symm)] at hk
          simpa [hki] using hΦ' k hk
      · intro k l hk hl hkl
        by_cases hki : k = i
        · subst hki
          rw [getD_set_ne false hkl] at hl
          have := (hd' l (fun x => hkl x.symm) hl).1
          simpa [show ¬ l = k from fun x => hkl x.symm] using this
        · rw [getD_set_ne false (fun x => hki x.symm)] at hk
          by_cases hli : l = i
          · subst hli
            have := (hd' k hki hk).2
            simpa [hki] using this
          · rw [getD_set_ne false (fun x => hli x.symm)] at hl
            simpa [hki, hli] using hD k l hk hl hkl
    have hs := (wpD_at a0 ops.toList 0 (fun j => by simp) (hwalk vals) i o (Nat.zero_le _) ho).out w hJ (fun k _ hk => by
      obtain ⟨e, he, hb, hon⟩ := waitsOn_spec hk
      have := hall e he hb
      rw [hon] at this
      exact hΦ k this) (fun k l _ _ hk hl hkl => by
      obtain ⟨e1, he1, hb1, hon1⟩ := waitsOn_spec hk
      have t1 := hall e1 he1 hb1
      obtain ⟨e2, he2, hb2, hon2⟩ := waitsOn_spec hl
      have t2 := hall e2 he2 hb2
      rw [hon1] at t1
      rw [hon2] at t2
      exact hD k l t1 t2 hkl)
    unfold wpOp
    simp only [ho]
    rw [hwant]
    split
    · rename_i hwn
      rw [if_pos hwn, ← hexec] at hs
      refine .inl ?_
      unfold Oper.wp
      generalize (execOp a.eval o).run P w = r at hs ⊢
      cases r with
      | ok n w' =>
        cases n <;> simp only [GUpon] at hs <;> simp only [Oper.upon]
        case value u => exact hkeep u w' hs.1 (fun k hk => hM k _ w w' (hΦ k hk) hs.2.1) hs.2.2.1 (fun l hl hll => hs.2.2.2 l _ hl (hΦ l hll) (fun k hk hwk hkl => by
          obtain ⟨e, he, hb, hon⟩ := waitsOn_spec hwk
          have hek := hall e he hb
          rw [hon] at hek
          exact ⟨hD k l hek hll hkl, hD l k hll hek (fun x => hkl x.symm)⟩))
        case skip => exact hkeep undef w' hs.1 (fun k hk => hM k _ w w' (hΦ k hk) hs.2.1) hs.2.2.1 (fun l hl hll => hs.2.2.2 l _ hl (hΦ l hll) (fun k hk hwk hkl => by
          obtain ⟨e, he, hb, hon⟩ := waitsOn_spec hwk
          have hek := hall e he hb
          rw [hon] at hek
          exact ⟨hD k l hek hll hkl, hD l k hll hek (fun x => hkl x.symm)⟩))
        case enter f args =>
          refine hs.mono fun e w'' ⟨u, he, hn⟩ => ?_
          subst he
          exact hkeep u w'' hn.1 (fun k hk => hM k _ w w'' (hΦ k hk) hn.2.1) hn.2.2.1 (fun l hl hll => hn.2.2.2 l _ hl (hΦ l hll) (fun k hk hwk hkl => by
          obtain ⟨e, he, hb, hon⟩ := waitsOn_spec hwk
          have hek := hall e he hb
          rw [hon] at hek
          exact ⟨hD k l hek hll hkl, hD l k hll hek (fun x => hkl x.symm)⟩))
      | halt x w' => simp only [GUpon] at hs
    · rename_i hwn
      rw [if_neg hwn] at hs
      exact hkeep undef w hJ hΦ hs.1 (fun l hl hll => hs.2 l _ hl (hΦ l hll) (fun k hk hwk hkl => by
          obtain ⟨e, he, hb, hon⟩ := waitsOn_spec hwk
          have hek := hall e he hb
          rw [hon] at hek
          exact ⟨hD k l hek hll hkl, hD l k hll hek (fun x => hkl x.symm)⟩))
  · intro listed a w hI hr
    obtain ⟨hsz, hcl, hdf, hts, hJ, vals, htm, hΦ, hD⟩ := hI
    have hallL : ∀ i, i < ops.size → listed.getD i false = true := by
      intro i
      induction i using Nat.strongRecOn with
      | _ i ih =>
        intro hi
        cases hc : listed.getD i true with
        | true => simp [show i < listed.size by omega] at hc ⊢; exact hc
        | false =>
          exfalso
          have ho : ops[i]? = some ops[i] := Array.getElem?_eq_getElem hi
          have hO := regionOk_at hok ho
          have : i ∈ Region.ready .any ops listed := mem_ready.2 ⟨hc, _, ho, fun e he hb => ih e.on (hO.edge e he hb) (by have := hO.edge e he hb; omega)⟩
          rw [hr] at this
          cases this
    have hact : a = prefixAct ops vals a0 ops.size := by
      have h1 : a.defers = (prefixAct ops vals a0 ops.size).defers := by rw [prefixAct_defers, hdf]
      have h2 : a.tmps = (prefixAct ops vals a0 ops.size).tmps := by
        apply Array.ext_getElem?
        intro t
        by_cases ht : t < a0.tmps.size
        · by_cases hw : ∀ k : Nat, (ops[k]?).bind (·.dst) ≠ some t
          · rw [(htm t ht).2 hw, prefixAct_none vals a0 _ t hw]
          · have hw' : ∃ k : Nat, (ops[k]?).bind (·.dst) = some t := Classical.byContradiction fun hc => hw fun k hk => hc ⟨k, hk⟩
            obtain ⟨k, hk⟩ := hw'
            cases hok' : ops[k]? with
            | none => rw [hok'] at hk; cases hk
            | some ok =>
              have hd : ok.dst = some t := by rw [hok'] at hk; exact hk
              have hkl : k < ops.size := (Array.getElem?_eq_some_iff.1 hok').1
              rw [(htm t ht).1 k ok hok' hd, prefixAct_at vals a0 _ t k hk (fun j hj => uniq hok' hd hj) ht, hallL k hkl]
              simp [hkl]
        · rw [Array.getElem?_eq_none (by omega), Array.getElem?_eq_none (by rw [prefixAct_size]; omega)]
      cases a; cases h : prefixAct ops vals a0 ops.size
      simp_all
    rw [hact]
    exact hfin vals w hJ (fun k hk => hΦ k (hallL k hk)) (fun k l hk hl hkl => hD k l (hallL k hk) (hallL l hl) hkl)
  · simp [unlisted]
  · refine ⟨by simp, ?_, rfl, rfl, h0, fun _ => undef, ?_, fun k hk => ?_, fun k l hk => ?_⟩
    · intro j oj _ hl
      rw [getD_replicate_false'] at hl
      cases hl
    · intro t ht
      refine ⟨fun k ok _ _ => ?_, fun _ => rfl⟩
      rw [getD_replicate_false']
      simp
    · rw [getD_replicate_false'] at hk
      cases hk
    · rw [getD_replicate_false'] at hk
      cases hk

theorem wp_region_DF {id : Nat} {a0 : Act} {w0 : World} (J : World → Prop) (M : World → World → Prop) (Φ : Nat → Value → World → Prop) (D : Nat → Nat → Value → Value → Prop)
    (hm : P.follows .mixedOrders = true) (hok : regionOk ops = true) (h0 : J w0.drew)
    (hM : ∀ k v w w', Φ k v w → M w w' → Φ k v w')
    (hwalk : ∀ vals, wpD P ops J M Φ D vals 0 ops.toList a0)
    (hfin : ∀ vals w, J w → (∀ k, k < ops.size → Φ k (vals k) w) → (∀ k l, k < ops.size → l < ops.size → k ≠ l → D k l (vals k) (vals l)) → Q .normal (fillG vals 0 ops.toList a0) w) : (Code.region id ops true).wp P Q a0 w0 := by
  refine wp_region_D J M Φ D hm hok h0 hM hwalk fun vals w hJ hf hd => ?_
  have h1 := fillG_prefix (ops := ops) vals a0 ops.toList 0 (fun j => by simp)
  simp only [prefixAct, Nat.zero_add, Array.length_toList] at h1
  rw [← h1]
  exact hfin vals w hJ hf hd

theorem dval {J : World → Prop} {M : World → World → Prop} {Φ : Nat → Value → World → Prop} {D : Nat → Nat → Value → Value → Prop} {vals : Nat → Value} {i : Nat} {o : Oper} {a : Act} (c : Value) (hM : ∀ w, M w w) (hD : ∀ l x y, l ≠ i → D i l x y ∧ D l i y x)
    (h : ∀ w, J w → (∀ k, k < ops.size → waitsOn o k = true → Φ k (vals k) w) → Region.wanted o (yielded ops a.tmps) = true ∧ (execOp a.eval o).run P w = .ok (.value c) w ∧ Φ i c w) : DStep P ops J M Φ D vals i o a := by
  refine ⟨fun w hJ hd _ => ?_⟩
  obtain ⟨h1, h2, h3⟩ := h w hJ hd
  rw [if_pos h1, h2]
  exact ⟨hJ, hM w, h3, fun l u hl _ _ => hD l c u hl⟩
theorem dop {J : World → Prop} {M : World → World → Prop} {Φ : Nat → Value → World → Prop} {D : Nat → Nat → Value → Value → Prop} {vals : Nat → Value} {i : Nat} {o : Oper} {a : Act} (m : Sem Value) (c : Value) (hM : ∀ w, M w w) (hD : ∀ l x y, l ≠ i → D i l x y ∧ D l i y x)
    (h : ∀ w, J w → (∀ k, k < ops.size → waitsOn o k = true → Φ k (vals k) w) → Region.wanted o (yielded ops a.tmps) = true ∧ execOp a.eval o = (do let r ← m; pure (.value r)) ∧ m.run P w = .ok c w ∧ Φ i c w) : DStep P ops J M Φ D vals i o a := by
  refine ⟨fun w hJ hd _ => ?_⟩
  obtain ⟨h1, h2, h3, h4⟩ := h w hJ hd
  rw [if_pos h1, h2, Sem.run_bind, h3]
  exact ⟨hJ, hM w, h4, fun l u hl _ _ => hD l c u hl⟩
theorem dmake {J : World → Prop} {M : World → World → Prop} {Φ : Nat → Value → World → Prop} {D : Nat → Nat → Value → Value → Prop} {vals : Nat → Value} {i : Nat} {o : Oper} {a : Act}
    (h : ∀ w, J w → (∀ k, k < ops.size → waitsOn o k = true → Φ k (vals k) w) → (∀ k l, k < ops.size → l < ops.size → waitsOn o k = true → waitsOn o l = true → k ≠ l → D k l (vals k) (vals l)) → Region.wanted o (yielded ops a.tmps) = true ∧ ∃ c w', (execOp a.eval o).run P w = .ok (.value c) w' ∧ J w' ∧ M w w' ∧ Φ i c w' ∧ Stand ops Φ D vals i o w c) : DStep P ops J M Φ D vals i o a := by
  refine ⟨fun w hJ hd hdd => ?_⟩
  obtain ⟨h1, c, w', h2, h3⟩ := h w hJ hd hdd
  rw [if_pos h1, h2]
  exact h3
end
end Go.Proofs.Ytabkkeniaepibaa
