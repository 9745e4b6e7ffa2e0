/- The arguments of a law: integers, bools, structs and arrays of such, slices of such: what is known of them when the law is called; and from a walk to the law's statement. -/
import Derived.Test.YtblbgalpkodibaaDoorLaw
import Derived.Test.YtblbgalpkodibaaDoorFlat
import Derived.Deep.Slices
import Derived.SizedLaws
import Derived.Lib.SmallJoins
namespace Go.Proofs.YtblbgalpkodibaaDoor
open Go.ChangeShapes Go.WideShapes Go.ChangeAt Go.RowKit

section
variable {H : Type} {enc : TypeId × Value → H} {P : Program} {w : World} {base : Nat} {spare : Nat → Bool} {held : Bool}
/-- What is known of one argument. -/
structure Arg (P : Program) (W : World) (t : TypeId) (v : Value) : Prop where
  flat : ∀ ks, flat P 8 t = .some ks → Fits ks v.cells.toList
  one : (P.underlying t = .some .bool → ∃ b, v = .bool b) ∧ (∀ k, P.underlying t = .some (.int k) → ∃ n, v = .int k n) ∧ (∀ fs, P.underlying t = .some (.struct fs) → ∃ cs, v = .agg cs)
  slice : ∀ e ks, P.underlying t = .some (.slice e) → Go.Proofs.YtblbgalpkodibaaDoor.flat P 8 e = .some ks → ks.length = P.cellsOf e → 0 < ks.length →
    ∃ A n cap, v = .slice A n cap ∧ n ≤ cap ∧ n * P.bytesOf e ≤ reachBytes ∧ SlArg ks W A n

theorem arg_of_trod {W : World} {t : TypeId} {v : Value} {d : DataW H} {p : List MemPlace} {r : Reach} {b0 : Nat} (hval : Value.okWide P W r b0 t v) (h : DataW.Trod enc P W base (fun _ => true) held t v d p)
    (hs : ∀ e elems spare, d = .slice elems spare → P.underlying t = .some (.slice e) → (elems.length + spare.length) * P.bytesOf e ≤ reachBytes) : Arg P W t v := by
  obtain ⟨fuel, hf⟩ := h
  refine ⟨fun ks hk => fits_of_trod 8 t ks fuel _ _ hk hf, ⟨fun hu => okWide_bool hu hval, fun k hu => okWide_int hu hval, fun fs hu => ?_⟩, fun e ks hu hk hlen h0 => ?_⟩
  · obtain ⟨cs, h, _⟩ := okWide_struct hu hval
    exact ⟨cs, h⟩
  obtain ⟨A, len, cap, rfl⟩ := okWide_slice hu hval
  rcases Go.Deep.open_slice hu hf with ⟨hcs, _⟩ | ⟨a, len', cap', m, n, D, Pl, hcs, _, hl, hm, hmm, hx, hi⟩
  · simp [Value.cells] at hcs
    obtain ⟨rfl, rfl, rfl⟩ := hcs
    exact ⟨_, _, _, rfl, Nat.le_refl _, by simp, fun h => by omega⟩
  · simp [Value.cells] at hcs
    obtain ⟨rfl, rfl, rfl⟩ := hcs
    have hlm : len ≤ m := by rw [hmm]; split <;> omega
    have hd : d = .slice ((List.range len).map D) ((List.range (m - len)).map fun j => D (len + j)) := by
      have := congrArg Prod.fst hx; exact this
    have hb := hs e _ _ hd hu
    simp only [List.length_map, List.length_range] at hb
    refine ⟨_, _, _, rfl, hl, Nat.le_trans (Nat.mul_le_mul_right _ (by omega)) hb, fun hn => ?_⟩
    obtain ⟨ab, ao, sp⟩ := a
    have hsp : sp = .none := by
      obtain ⟨cs', hc, ht⟩ := hi 0 (by omega)
      have hfit := fits_of_trod 8 e ks _ _ _ hk ht
      obtain ⟨_, _, hat⟩ := World.cells?_some hc
      have a0 := hat 0 (by omega)
      cases sp with
      | none => rfl
      | some x =>
        have hl0 := hfit.len
        rw [List.getElem?_eq_getElem (by omega)] at a0
        simp [Addr.add, World.cell?] at a0
        split at a0 <;> simp at a0
    subst hsp
    have add2 : ∀ i j, (Addr.add (Addr.add ⟨ab, ao, .none⟩ i) j) = ⟨ab, ao + i + j, .none⟩ := by
      intro i j
      unfold Addr.add
      by_cases h1 : i = 0 <;> by_cases h2 : j = 0 <;> simp [h1, h2]
    have key : ∀ i, i < len → ∃ cs, Fits ks cs ∧ ∀ j, j < ks.length → W.cell? ⟨ab, ao + i * ks.length + j, .none⟩ = cs[j]? := by
      intro i hil
      obtain ⟨cs', hc, ht⟩ := hi i (by omega)
      obtain ⟨_, _, hat⟩ := World.cells?_some hc
      refine ⟨cs', fits_of_trod 8 e ks _ _ _ hk ht, fun j hj => ?_⟩
      have := hat j (by omega)
      rw [add2, ← hlen] at this
      exact this
    refine ⟨ab, ao, rfl, ?_, key⟩
    obtain ⟨cs, hfit, hat⟩ := key 0 hn
    have k0 := hat 0 h0
    have hl0 := hfit.len
    rw [List.getElem?_eq_getElem (by omega)] at k0
    unfold World.cell? at k0
    rcases Nat.lt_or_ge ab W.heap.size with h | h
    · exact h
    · rw [Array.getElem?_eq_none h] at k0; cases k0

theorem trodAll_at : ∀ {ts : List TypeId} {vs : List Value} {ds : List (DataW H)} {ps : List MemPlace}, DataW.TrodAll enc P w base spare held ts vs ds ps → vs.length = ts.length ∧ ds.length = ts.length ∧
    ∀ (j : Nat) (t : TypeId) (v : Value), ts[j]? = .some t → vs[j]? = .some v → ∃ d p, ds[j]? = .some d ∧ DataW.Trod enc P w base spare held t v d p := by
  intro ts
  induction ts with
  | nil =>
    intro vs ds ps h
    obtain ⟨rfl, rfl, rfl⟩ := trodAll_nil h
    exact ⟨rfl, rfl, fun j t v h => by simp at h⟩
  | cons t ts ih =>
    intro vs ds ps h
    obtain ⟨v, vs, d, ds, p, q, rfl, rfl, rfl, h0, h1⟩ := trodAll_cons h
    obtain ⟨l1, l2, k⟩ := ih h1
    refine ⟨by simp [l1], by simp [l2], fun j t' v' ht hv => ?_⟩
    cases j with
    | zero => simp at ht hv; subst ht; subst hv; exact ⟨d, p, rfl, h0⟩
    | succ j => simp at ht hv; simpa using k j t' v' ht hv
end

set_option maxRecDepth 100000 in
/-- From a law's walk to what the row asks. -/
theorem lift {H : Type} {enc : TypeId × Value → H} {os : Os} (started : os.Started) {f : FuncId} {fn : Func} {s : ChangeSpec} {conds : List PathCond} {T : TypeId}
    (noInit : Tryd.checked.prog.inits.idxOf? f = .none) (hfn : Tryd.checked.prog.funcs[f]? = .some fn)
    (witness : ∃ (w : World) (tape : Tape) (i : Input), w.os = os ∧ (w.forCall tape i).Shaped Tryd.checked.prog ∧ i.vars = [] ∧ Input.okWide Tryd.checked.prog (w.forCall tape i) .any w.heap.size f i ∧
      s.pre6 enc Tryd.checked.prog fn conds false (w.forCall tape i).memory i.args ∧ ({} : Assume).holds Tryd.checked.prog (lone (Frame.enter Tryd.checked.prog f i.args .normal) [] (w.forCall tape i)))
    (hv : s.vars = []) (hts : fn.params.toList.all (fun t => Tryd.prog.readableRec t && decide (t < Tryd.prog.types.size)) = true)
    (hsf : ∀ ds : List (DataW H), ds.length = fn.params.toList.length → s.fn H (ds ++ []) = { results := [.lit (.bool true)], args := ds })
    (hrt : fn.resultTypes = #[T]) (hT : Tryd.prog.underlying T = .some .bool)
    (walk : ∀ (W : World) (args : Array Value), args.toList.length = fn.params.toList.length → (∀ (j : Nat) t v, fn.params[j]? = .some t → args[j]? = .some v → Arg Tryd.prog W t v) →
      Calls Tryd.prog f args W fun e w' => e = .returned (.bool true) ∧ Below W.heap.size W w') :
    ReturnsInHanded {} Tryd.checked os f .any (s.pre6 enc Tryd.prog fn conds false) (s.post enc Tryd.prog fn false true false false) := by
  refine returnsInHanded_of_change_sized (C := Tryd.checked) law_own started noInit hfn witness ?_
  intro W base args ds gs before hval hW hcnd hsz _
  have hW' := hW
  obtain ⟨p, q, hA, hV, rfl, hfz, hnd⟩ := hW
  rw [hv] at hV
  obtain ⟨rfl, rfl⟩ := trodVars_none hV
  obtain ⟨l1, l2, hat⟩ := trodAll_at hA
  refine (walk W args l1 fun j t v ht hv' => ?_).mono fun e W' ⟨he, hg⟩ => ⟨_, he, law_post hv hts hW' (hsf ds l2) hrt hT hg⟩
  obtain ⟨d, p', hd, hT'⟩ := hat j t v (by simpa using ht) (by simpa using hv')
  have htl : fn.params.toList[j]? = .some t := by simpa using ht
  have hl1 : (fn.params.toList ++ s.plain.varTypes Tryd.checked.prog)[j]? = .some t := by
    rw [List.getElem?_append_left (by rcases Nat.lt_or_ge j fn.params.toList.length with h | h; exact h; rw [List.getElem?_eq_none h] at htl; cases htl)]; exact htl
  have hl2 : (ds ++ [])[j]? = .some d := by simpa using hd
  exact arg_of_trod (hval j t v ht hv') hT' fun e elems spare he hu => sized_slice hsz (j := j) (t := t) (e := e) hl1 (by rw [← he]; exact hl2) hu
end Go.Proofs.YtblbgalpkodibaaDoor
