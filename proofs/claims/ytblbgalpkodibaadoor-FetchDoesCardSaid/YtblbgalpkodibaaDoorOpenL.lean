/- From a walk to a law's statement: the call returns true, and below the heap's old size nothing has turned. / The arguments of a law: integers, bools, structs and arrays of such, slices of such: what is known of them when the law is called; and from a walk to the law's statement. / From a law's walk to what a row with listed variables asks. -/
import Derived.Test.YtblbgalpkodibaaDoorRows
import Derived.WalkKit
import Derived.ProofKit
import Derived.OpenShut
import Derived.Test.YtblbgalpkodibaaDoorFlat
import Derived.Deep.Slices
import Derived.SizedLaws
import Derived.Lib.SmallJoins
import Derived.LaidMore
namespace Go.Proofs.YtblbgalpkodibaaDoor
open Go.ChangeShapes Go.WideShapes Go.ChangeAt Go.RowKit

theorem b64 {n : Int} (h : (Lit.int .u64 n).wf = true) : 0 ≤ n ∧ n < 18446744073709551616 := by
  have := bounds_u64 h
  omega
theorem law_own : ownKnob Tryd.prog.godebug = none := by kernel_rfl
theorem law_laid : laidOutB Tryd.prog = true := by kernel_rfl

section
variable {H : Type} {enc : TypeId × Value → H} {P : Program}
theorem trodAll_below (hl : laidOutB P = true) {W W' : World} (hb : Below W.heap.size W W') : ∀ (ts : List TypeId) (vs : List Value) (ds : List (DataW H)) (ps : List MemPlace),
    (∀ t ∈ ts, P.readableRec t = true ∧ t < P.types.size) →
    DataW.TrodAll enc P W 0 (fun _ => true) true ts vs ds ps → (∀ x ∈ ps, x.block < W.heap.size) →
    DataW.TrodAll enc P W' 0 (fun b => decide (b < W.heap.size)) true ts vs ds ps := by
  intro ts
  induction ts with
  | nil =>
    intro vs ds ps _ h _
    cases vs <;> cases ds <;> first | exact h | exact h.elim
  | cons t ts ih =>
    intro vs ds ps hts h hlt
    cases vs with
    | nil => exact h.elim
    | cons v vs =>
      cases ds with
      | nil => exact h.elim
      | cons d ds =>
        obtain ⟨p, q, h1, h2, rfl⟩ := h
        have h0 := hts t (by simp)
        exact ⟨p, q, Below.trod hl h0.1 h0.2 h1 hb (fun x hx => hlt x (by simp [hx])), ih vs ds q (fun t ht => hts t (by simp [ht])) h2 (fun x hx => hlt x (by simp [hx])), rfl⟩

theorem law_post {f : Func} {s : ChangeSpec} {W W' : World} {args : Array Value} {ds : List (DataW H)} {before : List MemPlace} {T : TypeId}
    (hv : s.vars = []) (hts : f.params.toList.all (fun t => Tryd.prog.readableRec t && decide (t < Tryd.prog.types.size)) = true)
    (hW : DataW.Whole enc Tryd.prog f.params.toList s.vars false W args.toList ds [] before)
    (hfn : s.fn H (ds ++ []) = { results := [.lit (.bool true)], args := ds })
    (hrt : f.resultTypes = #[T]) (hT : Tryd.prog.underlying T = some .bool) (hb : Below W.heap.size W W') :
    s.post enc Tryd.prog f false true false false W args (.bool true) W' := by
  have hlt : ∀ p ∈ before, p.block < W.heap.size := fun p hp => hW.lt p hp
  obtain ⟨p, q, hA, hV, hpq, hfz, hnd⟩ := hW
  have hV0 := hV
  rw [hv] at hV0
  have hq : q = [] := hV0
  subst hq
  rw [List.append_nil] at hpq
  subst hpq
  refine ⟨ds, [], before, [], before, [], ⟨before, [], hA, hV, by simp, hfz, hnd⟩, ?_, ?_, ?_, hb.frame _, fun h => by cases h⟩
  · rw [hrt, hfn]
    exact trodAll_cons_mk (shut_bool hT _) trodAll_mk0
  · rw [hfn]
    exact trodAll_below law_laid hb _ _ _ _ (fun t ht => by have := List.all_eq_true.1 hts t ht; simp only [Bool.and_eq_true, decide_eq_true_eq] at this; exact this) hA hlt
  · rw [hv, hfn]
    rfl
end
end Go.Proofs.YtblbgalpkodibaaDoor
namespace Go.Proofs.YtblbgalpkodibaaDoor
open Go.ChangeShapes Go.WideShapes Go.ChangeAt Go.RowKit

section
variable {H : Type} {enc : TypeId × Value → H} {P : Program} {w : World} {base : Nat} {spare : Nat → Bool} {held : Bool}
/-- What is known of one argument. -/
structure Arg (P : Program) (W : World) (t : TypeId) (v : Value) : Prop where
  flat : ∀ ks, flat P 8 t = .some ks → Fits ks v.cells.toList
  one : (P.underlying t = .some .bool → ∃ b, v = .bool b) ∧ (∀ k, P.underlying t = .some (.int k) → ∃ n, v = .int k n) ∧ (∀ fs, P.underlying t = .some (.struct fs) → ∃ cs, v = .agg cs)
  slice : ∀ e ks, P.underlying t = .some (.slice e) → Go.Proofs.YtblbgalpkodibaaDoor.flat P 8 e = .some ks → ks.length = P.cellsOf e → 0 < ks.length →
    ∃ A n cap, v = .slice A n cap ∧ n ≤ cap ∧ n * P.bytesOf e ≤ reachBytes ∧ SlArg ks W A n

theorem arg_of_trod {W : World} {t : TypeId} {v : Value} {d : DataW H} {p : List MemPlace} {r : Reach} {b0 : Nat} (hval : Value.okWide P W r b0 t v) (h : DataW.Trod enc P W base (fun _ => true) held t v d p)
    (hs : ∀ e elems spare, d = .slice elems spare → P.underlying t = .some (.slice e) → (elems.length + spare.length) * P.bytesOf e ≤ reachBytes) : Arg P W t v := by
  obtain ⟨fuel, hf⟩ := h
  refine ⟨fun ks hk => fits_of_trod 8 t ks fuel _ _ hk hf, ⟨fun hu => okWide_bool hu hval, fun k hu => okWide_int hu hval, fun fs hu => ?_⟩, fun e ks hu hk hlen h0 => ?_⟩
  · obtain ⟨cs, h, _⟩ := okWide_struct hu hval
    exact ⟨cs, h⟩
  obtain ⟨A, len, cap, rfl⟩ := okWide_slice hu hval
  rcases Go.Deep.open_slice hu hf with ⟨hcs, _⟩ | ⟨a, len', cap', m, n, D, Pl, hcs, _, hl, hm, hmm, hx, hi⟩
  · simp [Value.cells] at hcs
    obtain ⟨rfl, rfl, rfl⟩ := hcs
    exact ⟨_, _, _, rfl, Nat.le_refl _, by simp, fun h => by omega⟩
  · simp [Value.cells] at hcs
    obtain ⟨rfl, rfl, rfl⟩ := hcs
    have hlm : len ≤ m := by rw [hmm]; split <;> omega
    have hd : d = .slice ((List.range len).map D) ((List.range (m - len)).map fun j => D (len + j)) := by
      have := congrArg Prod.fst hx; exact this
    have hb := hs e _ _ hd hu
    simp only [List.length_map, List.length_range] at hb
    refine ⟨_, _, _, rfl, hl, Nat.le_trans (Nat.mul_le_mul_right _ (by omega)) hb, fun hn => ?_⟩
    obtain ⟨ab, ao, sp⟩ := a
    have hsp : sp = .none := by
      obtain ⟨cs', hc, ht⟩ := hi 0 (by omega)
      have hfit := fits_of_trod 8 e ks _ _ _ hk ht
      obtain ⟨_, _, hat⟩ := World.cells?_some hc
      have a0 := hat 0 (by omega)
      cases sp with
      | none => rfl
      | some x =>
        have hl0 := hfit.len
        rw [List.getElem?_eq_getElem (by omega)] at a0
        simp [Addr.add, World.cell?] at a0
        split at a0 <;> simp at a0
    subst hsp
    have add2 : ∀ i j, (Addr.add (Addr.add ⟨ab, ao, .none⟩ i) j) = ⟨ab, ao + i + j, .none⟩ := by
      intro i j
      unfold Addr.add
      by_cases h1 : i = 0 <;> by_cases h2 : j = 0 <;> simp [h1, h2]
    have key : ∀ i, i < len → ∃ cs, Fits ks cs ∧ ∀ j, j < ks.length → W.cell? ⟨ab, ao + i * ks.length + j, .none⟩ = cs[j]? := by
      intro i hil
      obtain ⟨cs', hc, ht⟩ := hi i (by omega)
      obtain ⟨_, _, hat⟩ := World.cells?_some hc
      refine ⟨cs', fits_of_trod 8 e ks _ _ _ hk ht, fun j hj => ?_⟩
      have := hat j (by omega)
      rw [add2, ← hlen] at this
      exact this
    refine ⟨ab, ao, rfl, ?_, key⟩
    obtain ⟨cs, hfit, hat⟩ := key 0 hn
    have k0 := hat 0 h0
    have hl0 := hfit.len
    rw [List.getElem?_eq_getElem (by omega)] at k0
    unfold World.cell? at k0
    rcases Nat.lt_or_ge ab W.heap.size with h | h
    · exact h
    · rw [Array.getElem?_eq_none h] at k0; cases k0

theorem trodAll_at : ∀ {ts : List TypeId} {vs : List Value} {ds : List (DataW H)} {ps : List MemPlace}, DataW.TrodAll enc P w base spare held ts vs ds ps → vs.length = ts.length ∧ ds.length = ts.length ∧
    ∀ (j : Nat) (t : TypeId) (v : Value), ts[j]? = .some t → vs[j]? = .some v → ∃ d p, ds[j]? = .some d ∧ DataW.Trod enc P w base spare held t v d p := by
  intro ts
  induction ts with
  | nil =>
    intro vs ds ps h
    obtain ⟨rfl, rfl, rfl⟩ := trodAll_nil h
    exact ⟨rfl, rfl, fun j t v h => by simp at h⟩
  | cons t ts ih =>
    intro vs ds ps h
    obtain ⟨v, vs, d, ds, p, q, rfl, rfl, rfl, h0, h1⟩ := trodAll_cons h
    obtain ⟨l1, l2, k⟩ := ih h1
    refine ⟨by simp [l1], by simp [l2], fun j t' v' ht hv => ?_⟩
    cases j with
    | zero => simp at ht hv; subst ht; subst hv; exact ⟨d, p, rfl, h0⟩
    | succ j => simp at ht hv; simpa using k j t' v' ht hv
end

set_option maxRecDepth 100000 in
/-- From a law's walk to what the row asks. -/
theorem lift {H : Type} {enc : TypeId × Value → H} {os : Os} (started : os.Started) {f : FuncId} {fn : Func} {s : ChangeSpec} {conds : List PathCond} {T : TypeId}
    (noInit : Tryd.checked.prog.inits.idxOf? f = .none) (hfn : Tryd.checked.prog.funcs[f]? = .some fn)
    (witness : ∃ (w : World) (tape : Tape) (i : Input), w.os = os ∧ (w.forCall tape i).Shaped Tryd.checked.prog ∧ i.vars = [] ∧ Input.okWide Tryd.checked.prog (w.forCall tape i) .any w.heap.size f i ∧
      s.pre6 enc Tryd.checked.prog fn conds false (w.forCall tape i).memory i.args ∧ ({} : Assume).holds Tryd.checked.prog (lone (Frame.enter Tryd.checked.prog f i.args .normal) [] (w.forCall tape i)))
    (hv : s.vars = []) (hts : fn.params.toList.all (fun t => Tryd.prog.readableRec t && decide (t < Tryd.prog.types.size)) = true)
    (hsf : ∀ ds : List (DataW H), ds.length = fn.params.toList.length → s.fn H (ds ++ []) = { results := [.lit (.bool true)], args := ds })
    (hrt : fn.resultTypes = #[T]) (hT : Tryd.prog.underlying T = .some .bool)
    (walk : ∀ (W : World) (args : Array Value), args.toList.length = fn.params.toList.length → (∀ (j : Nat) t v, fn.params[j]? = .some t → args[j]? = .some v → Arg Tryd.prog W t v) →
      Calls Tryd.prog f args W fun e w' => e = .returned (.bool true) ∧ Below W.heap.size W w') :
    ReturnsInHanded {} Tryd.checked os f .any (s.pre6 enc Tryd.prog fn conds false) (s.post enc Tryd.prog fn false true false false) := by
  refine returnsInHanded_of_change_sized (C := Tryd.checked) law_own started noInit hfn witness ?_
  intro W base args ds gs before hval hW hcnd hsz _
  have hW' := hW
  obtain ⟨p, q, hA, hV, rfl, hfz, hnd⟩ := hW
  rw [hv] at hV
  obtain ⟨rfl, rfl⟩ := trodVars_none hV
  obtain ⟨l1, l2, hat⟩ := trodAll_at hA
  refine (walk W args l1 fun j t v ht hv' => ?_).mono fun e W' ⟨he, hg⟩ => ⟨_, he, law_post hv hts hW' (hsf ds l2) hrt hT hg⟩
  obtain ⟨d, p', hd, hT'⟩ := hat j t v (by simpa using ht) (by simpa using hv')
  have htl : fn.params.toList[j]? = .some t := by simpa using ht
  have hl1 : (fn.params.toList ++ s.plain.varTypes Tryd.checked.prog)[j]? = .some t := by
    rw [List.getElem?_append_left (by rcases Nat.lt_or_ge j fn.params.toList.length with h | h; exact h; rw [List.getElem?_eq_none h] at htl; cases htl)]; exact htl
  have hl2 : (ds ++ [])[j]? = .some d := by simpa using hd
  exact arg_of_trod (hval j t v ht hv') hT' fun e elems spare he hu => sized_slice hsz (j := j) (t := t) (e := e) hl1 (by rw [← he]; exact hl2) hu
end Go.Proofs.YtblbgalpkodibaaDoor
namespace Go.Proofs.YtblbgalpkodibaaDoor
open Go.ChangeShapes Go.WideShapes Go.ChangeAt Go.RowKit

set_option maxRecDepth 100000 in
theorem liftL {H : Type} {enc : TypeId × Value → H} {os : Os} (started : os.Started) {f : FuncId} {fn : Func} {s : ChangeSpec} {conds : List PathCond} {T : TypeId} {X : World → Prop}
    (hX : ∀ (w w' : World), w.heap = w'.heap → X w → X w')
    (noInit : Tryd.checked.prog.inits.idxOf? f = .none) (hfn : Tryd.checked.prog.funcs[f]? = .some fn)
    (witness : ∃ (w : World) (tape : Tape) (i : Input), w.os = os ∧ (w.forCall tape i).Shaped Tryd.checked.prog ∧ i.vars = [] ∧ Input.okWide Tryd.checked.prog (w.forCall tape i) .any w.heap.size f i ∧
      ((s.pre enc Tryd.checked.prog fn conds false (w.forCall tape i).memory i.args ∧ X (w.forCall tape i).memory) ∧ sizedMet enc Tryd.checked.prog fn (OpenSpec.ofChange s) false (w.forCall tape i).memory i.args) ∧ ({} : Assume).holds Tryd.checked.prog (lone (Frame.enter Tryd.checked.prog f i.args .normal) [] (w.forCall tape i)))
    (hv : s.vars = []) (hts : fn.params.toList.all (fun t => Tryd.prog.readableRec t && decide (t < Tryd.prog.types.size)) = true)
    (hsf : ∀ ds : List (DataW H), ds.length = fn.params.toList.length → s.fn H (ds ++ []) = { results := [.lit (.bool true)], args := ds })
    (hrt : fn.resultTypes = #[T]) (hT : Tryd.prog.underlying T = .some .bool)
    (walk : ∀ (W : World) (args : Array Value), X W → args.toList.length = fn.params.toList.length → (∀ (j : Nat) t v, fn.params[j]? = .some t → args[j]? = .some v → Arg Tryd.prog W t v) →
      Calls Tryd.prog f args W fun e w' => e = .returned (.bool true) ∧ Below W.heap.size W w') :
    ReturnsInHanded {} Tryd.checked os f .any (fun w args => (s.pre enc Tryd.prog fn conds false w args ∧ X w) ∧ sizedMet enc Tryd.prog fn (OpenSpec.ofChange s) false w args) (s.post enc Tryd.prog fn false true false false) := by
  refine returnsInHanded_of_change_and (C := Tryd.checked) (X := fun w _ => X w) (fun w w' _ hh h => hX w w' hh h) law_own started noInit hfn witness ?_
  intro W base args ds gs before hval hW hcnd hsz hXW _
  have hW' := hW
  obtain ⟨p, q, hA, hV, rfl, hfz, hnd⟩ := hW
  rw [hv] at hV
  obtain ⟨rfl, rfl⟩ := trodVars_none hV
  obtain ⟨l1, l2, hat⟩ := trodAll_at hA
  refine (walk W args hXW l1 fun j t v ht hv' => ?_).mono fun e W' ⟨he, hg⟩ => ⟨_, he, law_post hv hts hW' (hsf ds l2) hrt hT hg⟩
  obtain ⟨d, p', hd, hT'⟩ := hat j t v (by simpa using ht) (by simpa using hv')
  have htl : fn.params.toList[j]? = .some t := by simpa using ht
  have hl1 : (fn.params.toList ++ s.plain.varTypes Tryd.checked.prog)[j]? = .some t := by
    rw [List.getElem?_append_left (by rcases Nat.lt_or_ge j fn.params.toList.length with h | h; exact h; rw [List.getElem?_eq_none h] at htl; cases htl)]; exact htl
  have hl2 : (ds ++ [])[j]? = .some d := by simpa using hd
  exact arg_of_trod (hval j t v ht hv') hT' fun e elems spare he hu => sized_slice hsz (j := j) (t := t) (e := e) hl1 (by rw [← he]; exact hl2) hu
theorem below_of_grown {w w' : World} (h : w.grownBy w' none) : Below w.heap.size w w' := ⟨h.os, h.tape, h.output, h.size, fun k hk => h.block k hk (by simp)⟩
/-- A listed slice of integers: its cells. -/
theorem ints_at {H : Type} {P : Program} {W : World} {f : Nat} {T E : TypeId} {cs : List Value} {ps : List MemPlace} {k : IntKind} {l : List Int} {enc : TypeId × Value → H} {b0 : Nat} {sp : Nat → Bool} {held : Bool}
    (hT : P.underlying T = some (.slice E)) (hE : P.underlying E = some (.int k)) (hc : P.cellsOf E = 1) (h0 : l ≠ [])
    (h : DataW.trod enc P W b0 sp held f T cs = some (.slice (l.map fun n => .lit (.int k n)) [], ps)) :
    ∃ g o cap, cs = [.slice (some ⟨g, o, none⟩) l.length cap] ∧ ∀ (j : Nat) n, l[j]? = some n → W.cell? ⟨g, o + j, none⟩ = some (.int k n) := by
  rcases Go.Deep.open_slice1 hT hc h with ⟨_, hx⟩ | ⟨a, len, cap, m, n, V, D, Pl, rfl, _, hl, _, hm, hx, hat⟩
  · exact absurd (congrArg Prod.fst hx) (by intro c; cases c)
  have h1 := congrArg Prod.fst hx
  simp only [DataW.slice.injEq] at h1
  obtain ⟨h1, _⟩ := h1
  have hlen : l.length = len := by have := congrArg List.length h1; simpa using this
  subst hlen
  have hlm : l.length ≤ m := by rw [hm]; split <;> omega
  have key : ∀ (j : Nat) x, l[j]? = some x → W.cell? (a.add j) = some (.int k x) := by
    intro j x hj
    have hjl := (List.getElem?_eq_some_iff.1 hj).1
    obtain ⟨hcell, htr⟩ := hat j (by omega)
    have hD : D j = .lit (.int k x) := by
      have := congrArg (fun z => z[j]?) h1
      simp only [List.getElem?_map, hj, List.getElem?_range hjl, Option.map_some] at this
      exact (Option.some.inj this).symm
    obtain ⟨y, e1, e2, _⟩ := DataW.trod_int hE htr
    rw [hD] at e2
    have e2' : x = y := (show x = y ∧ Pl j = [] by simpa using e2).1
    subst e2'
    rw [hcell]
    simpa using e1
  obtain ⟨g, o, s⟩ := a
  have hs : s = none := by
    obtain ⟨x, hx0⟩ : ∃ x, l[0]? = some x := by
      cases l with
      | nil => exact absurd rfl h0
      | cons x _ => exact ⟨x, rfl⟩
    have := key 0 x hx0
    cases s with
    | none => rfl
    | some z => simp [Addr.add, World.cell?] at this; split at this <;> simp at this
  subst hs
  refine ⟨g, o, cap, rfl, fun j x hj => ?_⟩
  have := key j x hj
  by_cases hz : j = 0 <;> simpa [Addr.add, hz] using this
end Go.Proofs.YtblbgalpkodibaaDoor
