/- From a law's walk to what a row with listed variables asks. -/
import Derived.Test.YtblbgalpkodibaaDoorOpen
import Derived.LaidMore
namespace Go.Proofs.YtblbgalpkodibaaDoor
open Go.ChangeShapes Go.WideShapes Go.ChangeAt Go.RowKit

set_option maxRecDepth 100000 in
theorem liftL {H : Type} {enc : TypeId × Value → H} {os : Os} (started : os.Started) {f : FuncId} {fn : Func} {s : ChangeSpec} {conds : List PathCond} {T : TypeId} {X : World → Prop}
    (hX : ∀ (w w' : World), w.heap = w'.heap → X w → X w')
    (noInit : Tryd.checked.prog.inits.idxOf? f = .none) (hfn : Tryd.checked.prog.funcs[f]? = .some fn)
    (witness : ∃ (w : World) (tape : Tape) (i : Input), w.os = os ∧ (w.forCall tape i).Shaped Tryd.checked.prog ∧ i.vars = [] ∧ Input.okWide Tryd.checked.prog (w.forCall tape i) .any w.heap.size f i ∧
      ((s.pre enc Tryd.checked.prog fn conds false (w.forCall tape i).memory i.args ∧ X (w.forCall tape i).memory) ∧ sizedMet enc Tryd.checked.prog fn (OpenSpec.ofChange s) false (w.forCall tape i).memory i.args) ∧ ({} : Assume).holds Tryd.checked.prog (lone (Frame.enter Tryd.checked.prog f i.args .normal) [] (w.forCall tape i)))
    (hv : s.vars = []) (hts : fn.params.toList.all (fun t => Tryd.prog.readableRec t && decide (t < Tryd.prog.types.size)) = true)
    (hsf : ∀ ds : List (DataW H), ds.length = fn.params.toList.length → s.fn H (ds ++ []) = { results := [.lit (.bool true)], args := ds })
    (hrt : fn.resultTypes = #[T]) (hT : Tryd.prog.underlying T = .some .bool)
    (walk : ∀ (W : World) (args : Array Value), X W → args.toList.length = fn.params.toList.length → (∀ (j : Nat) t v, fn.params[j]? = .some t → args[j]? = .some v → Arg Tryd.prog W t v) →
      Calls Tryd.prog f args W fun e w' => e = .returned (.bool true) ∧ Below W.heap.size W w') :
    ReturnsInHanded {} Tryd.checked os f .any (fun w args => (s.pre enc Tryd.prog fn conds false w args ∧ X w) ∧ sizedMet enc Tryd.prog fn (OpenSpec.ofChange s) false w args) (s.post enc Tryd.prog fn false true false false) := by
  refine returnsInHanded_of_change_and (C := Tryd.checked) (X := fun w _ => X w) (fun w w' _ hh h => hX w w' hh h) law_own started noInit hfn witness ?_
  intro W base args ds gs before hval hW hcnd hsz hXW _
  have hW' := hW
  obtain ⟨p, q, hA, hV, rfl, hfz, hnd⟩ := hW
  rw [hv] at hV
  obtain ⟨rfl, rfl⟩ := trodVars_none hV
  obtain ⟨l1, l2, hat⟩ := trodAll_at hA
  refine (walk W args hXW l1 fun j t v ht hv' => ?_).mono fun e W' ⟨he, hg⟩ => ⟨_, he, law_post hv hts hW' (hsf ds l2) hrt hT hg⟩
  obtain ⟨d, p', hd, hT'⟩ := hat j t v (by simpa using ht) (by simpa using hv')
  have htl : fn.params.toList[j]? = .some t := by simpa using ht
  have hl1 : (fn.params.toList ++ s.plain.varTypes Tryd.checked.prog)[j]? = .some t := by
    rw [List.getElem?_append_left (by rcases Nat.lt_or_ge j fn.params.toList.length with h | h; exact h; rw [List.getElem?_eq_none h] at htl; cases htl)]; exact htl
  have hl2 : (ds ++ [])[j]? = .some d := by simpa using hd
  exact arg_of_trod (hval j t v ht hv') hT' fun e elems spare he hu => sized_slice hsz (j := j) (t := t) (e := e) hl1 (by rw [← he]; exact hl2) hu
theorem below_of_grown {w w' : World} (h : w.grownBy w' none) : Below w.heap.size w w' := ⟨h.os, h.tape, h.output, h.size, fun k hk => h.block k hk (by simp)⟩
/-- A listed slice of integers: its cells. -/
theorem ints_at {H : Type} {P : Program} {W : World} {f : Nat} {T E : TypeId} {cs : List Value} {ps : List MemPlace} {k : IntKind} {l : List Int} {enc : TypeId × Value → H} {b0 : Nat} {sp : Nat → Bool} {held : Bool}
    (hT : P.underlying T = some (.slice E)) (hE : P.underlying E = some (.int k)) (hc : P.cellsOf E = 1) (h0 : l ≠ [])
    (h : DataW.trod enc P W b0 sp held f T cs = some (.slice (l.map fun n => .lit (.int k n)) [], ps)) :
    ∃ g o cap, cs = [.slice (some ⟨g, o, none⟩) l.length cap] ∧ ∀ (j : Nat) n, l[j]? = some n → W.cell? ⟨g, o + j, none⟩ = some (.int k n) := by
  rcases Go.Deep.open_slice1 hT hc h with ⟨_, hx⟩ | ⟨a, len, cap, m, n, V, D, Pl, rfl, _, hl, _, hm, hx, hat⟩
  · exact absurd (congrArg Prod.fst hx) (by intro c; cases c)
  have h1 := congrArg Prod.fst hx
  simp only [DataW.slice.injEq] at h1
  obtain ⟨h1, _⟩ := h1
  have hlen : l.length = len := by have := congrArg List.length h1; simpa using this
  subst hlen
  have hlm : l.length ≤ m := by rw [hm]; split <;> omega
  have key : ∀ (j : Nat) x, l[j]? = some x → W.cell? (a.add j) = some (.int k x) := by
    intro j x hj
    have hjl := (List.getElem?_eq_some_iff.1 hj).1
    obtain ⟨hcell, htr⟩ := hat j (by omega)
    have hD : D j = .lit (.int k x) := by
      have := congrArg (fun z => z[j]?) h1
      simp only [List.getElem?_map, hj, List.getElem?_range hjl, Option.map_some] at this
      exact (Option.some.inj this).symm
    obtain ⟨y, e1, e2, _⟩ := DataW.trod_int hE htr
    rw [hD] at e2
    have e2' : x = y := (show x = y ∧ Pl j = [] by simpa using e2).1
    subst e2'
    rw [hcell]
    simpa using e1
  obtain ⟨g, o, s⟩ := a
  have hs : s = none := by
    obtain ⟨x, hx0⟩ : ∃ x, l[0]? = some x := by
      cases l with
      | nil => exact absurd rfl h0
      | cons x _ => exact ⟨x, rfl⟩
    have := key 0 x hx0
    cases s with
    | none => rfl
    | some z => simp [Addr.add, World.cell?] at this; split at this <;> simp at this
  subst hs
  refine ⟨g, o, cap, rfl, fun j x hj => ?_⟩
  have := key j x hj
  by_cases hz : j = 0 <;> simpa [Addr.add, hz] using this
end Go.Proofs.YtblbgalpkodibaaDoor
