/- The arguments of a law: integers, bools, structs and arrays of such, slices of such: what is known of them when the law is called; and from a walk to the law's statement. -/
import Derived.Test.YtaholijnfekkgaaLaw
import Derived.Deep.Slices
import Derived.SizedLaws
import Derived.Lib.SmallJoins
namespace Go.Proofs.Ytaholijnfekkgaa
open Go.ChangeShapes Go.WideShapes Go.ChangeAt Go.RowKit

/-- What a cell is: a bool (none), an integer of a kind. -/
def fitK : Option IntKind → Value → Prop
  | .none, v => ∃ x, v = .bool x
  | .some k, v => ∃ n, v = .int k n ∧ (Lit.int k n).wf = true
def Fits : List (Option IntKind) → List Value → Prop
  | [], [] => True
  | k :: ks, v :: vs => fitK k v ∧ Fits ks vs
  | _, _ => False
theorem Fits.len : ∀ {ks : List (Option IntKind)} {vs : List Value}, Fits ks vs → vs.length = ks.length := by
  intro ks
  induction ks with
  | nil => intro vs h; cases vs <;> first | rfl | exact h.elim
  | cons k ks ih =>
    intro vs h
    cases vs with
    | nil => exact h.elim
    | cons v vs => simp [ih h.2]
theorem Fits.append : ∀ {ks ls : List (Option IntKind)} {vs us : List Value}, Fits ks vs → Fits ls us → Fits (ks ++ ls) (vs ++ us) := by
  intro ks
  induction ks with
  | nil => intro ls vs us h k; cases vs <;> first | exact k | exact h.elim
  | cons k ks ih =>
    intro ls vs us h h2
    cases vs with
    | nil => exact h.elim
    | cons v vs => exact ⟨h.1, ih h.2 h2⟩
theorem Fits.get : ∀ {ks : List (Option IntKind)} {vs : List Value} {j : Nat} {k : Option IntKind}, Fits ks vs → ks[j]? = .some k → ∃ v, vs[j]? = .some v ∧ fitK k v := by
  intro ks
  induction ks with
  | nil => intro vs j k h hk; simp at hk
  | cons k ks ih =>
    intro vs j k' h hk
    cases vs with
    | nil => exact h.elim
    | cons v vs =>
      cases j with
      | zero => simp at hk; subst hk; exact ⟨v, rfl, h.1⟩
      | succ j => simp at hk; simpa using ih h.2 hk

def flatFields (g : TypeId → Option (List (Option IntKind))) (cells : TypeId → Nat) : List Field → Nat → Option (List (Option IntKind))
  | [], _ => .some []
  | fd :: fs, o => if fd.offset = o then (g fd.type).bind fun m => if m.length = cells fd.type then (flatFields g cells fs (o + m.length)).map (m ++ ·) else .none else .none
/-- The cells of a type without pointers, one by one. -/
def flat (P : Program) : Nat → TypeId → Option (List (Option IntKind))
  | 0, _ => .none
  | f + 1, T => match P.underlying T with
    | .some .bool => .some [.none]
    | .some (.int k) => .some [.some k]
    | .some (.struct fs) => (flatFields (flat P f) P.cellsOf fs.toList 0).bind fun l => if l.length = P.cellsOf T then .some l else .none
    | .some (.array n e) => (flat P f e).bind fun m => if m.length = P.cellsOf e ∧ n * m.length = P.cellsOf T then .some (List.replicate n m).flatten else .none
    | _ => .none

section
variable {H : Type} {enc : TypeId × Value → H} {P : Program} {w : World} {base : Nat} {spare : Nat → Bool} {held : Bool}
theorem fits_fields {g : TypeId → Option (List (Option IntKind))} {cells : TypeId → Nat} : ∀ (fs : List Field) (o : Nat) (l : List (Option IntKind)) (cs : List Value), flatFields g cells fs o = .some l → cs.length = o + l.length →
    (∀ fd ∈ fs, ∀ m, g fd.type = .some m → Fits m ((cs.drop fd.offset).take (cells fd.type))) → Fits l (cs.drop o) := by
  intro fs
  induction fs with
  | nil =>
    intro o l cs h hl _
    simp [flatFields] at h
    subst h
    rw [List.drop_eq_nil_of_le (by simp at hl; omega)]
    trivial
  | cons fd fs ih =>
    intro o l cs h hl hf
    simp only [flatFields] at h
    split at h
    case isFalse => cases h
    case isTrue ho =>
      cases hg : g fd.type with
      | none => rw [hg] at h; cases h
      | some m =>
        rw [hg] at h
        simp only [Option.bind_some] at h
        split at h
        case isFalse => cases h
        case isTrue hm =>
          obtain ⟨l', hl', rfl⟩ := Option.map_eq_some_iff.1 h
          have h1 := hf fd (by simp) m hg
          rw [ho, ← hm] at h1
          have h2 := ih (o + m.length) l' cs hl' (by simp at hl; omega) (fun fd' h' => hf fd' (by simp [h']))
          have h3 := h1.append h2
          rwa [← List.drop_drop, List.take_append_drop] at h3
theorem fits_rows : ∀ (n : Nat) (m : List (Option IntKind)) (cs : List Value), cs.length = n * m.length → (∀ i, i < n → Fits m ((cs.drop (i * m.length)).take m.length)) → Fits (List.replicate n m).flatten cs := by
  intro n m
  induction n with
  | zero =>
    intro cs h _
    have : cs = [] := List.eq_nil_of_length_eq_zero (by simpa using h)
    subst this
    trivial
  | succ n ih =>
    intro cs h hf
    have h1 := hf 0 (by omega)
    simp only [Nat.zero_mul, List.drop_zero] at h1
    have h2 := ih (cs.drop m.length) (by rw [List.length_drop, h, Nat.succ_mul]; omega) (fun i hi => by
      have := hf (i + 1) (by omega)
      rw [List.drop_drop, show m.length + i * m.length = (i + 1) * m.length by rw [Nat.succ_mul]; omega]
      exact this)
    have h3 := h1.append h2
    rw [List.take_append_drop] at h3
    simpa [List.replicate_succ] using h3
theorem fits_of_trod : ∀ (f : Nat) (T : TypeId) (ks : List (Option IntKind)) (fuel : Nat) (cs : List Value) (x : DataW H × List MemPlace), flat P f T = .some ks → DataW.trod enc P w base spare held fuel T cs = .some x → Fits ks cs := by
  intro f
  induction f with
  | zero => intro T ks fuel cs x h; cases h
  | succ f ih =>
    intro T ks fuel cs x h ht
    simp only [flat] at h
    split at h
    · rename_i hu
      cases h
      obtain ⟨b, rfl, _⟩ := DataW.trod_bool hu ht
      exact ⟨⟨b, rfl⟩, trivial⟩
    · rename_i k hu
      cases h
      obtain ⟨b, rfl, _, hw⟩ := DataW.trod_int hu ht
      exact ⟨⟨b, rfl, hw⟩, trivial⟩
    · rename_i fs hu
      obtain ⟨l, hl, h⟩ := Option.bind_eq_some_iff.1 h
      split at h
      case isFalse => cases h
      case isTrue hlen =>
        cases h
        obtain ⟨xs, n, _, _, hc, hxl, hf⟩ := DataW.trod_struct hu ht
        have := fits_fields fs.toList 0 ks cs hl (by omega) (fun fd hfd m hm => by
          obtain ⟨i, hi, he⟩ := List.getElem_of_mem hfd
          have hi2 : i < xs.length := by rw [hxl]; simpa using hi
          have h1 := hf i fd (by rw [← he]; simp)
          have hx : xs[i]? = .some xs[i] := List.getElem?_eq_getElem hi2
          rw [hx] at h1
          exact ih _ _ _ _ _ hm h1)
        simpa using this
    · rename_i n e hu
      obtain ⟨m, hm, h⟩ := Option.bind_eq_some_iff.1 h
      split at h
      case isFalse => cases h
      case isTrue hlen =>
        cases h
        obtain ⟨xs, k, _, _, hc, hxl, hf⟩ := DataW.trod_array hu ht
        refine fits_rows n m cs (by omega) (fun i hi => ?_)
        have h1 := hf i hi
        have hi2 : i < xs.length := by omega
        have hx : xs[i]? = .some xs[i] := List.getElem?_eq_getElem hi2
        rw [hx, ← hlen.1] at h1
        exact ih _ _ _ _ _ hm h1
    · cases h

/-- What a cell holds. -/
def ci (w : World) (b o : Nat) : Int := match w.cell? ⟨b, o, .none⟩ with | .some (.int _ n) => n | _ => 0
def cb (w : World) (b o : Nat) : Bool := match w.cell? ⟨b, o, .none⟩ with | .some (.bool n) => n | _ => false
theorem cell_int {W : World} {ab o : Nat} {ks : List (Option IntKind)} {cs : List Value} (hf : Fits ks cs) (hc : ∀ j, j < ks.length → W.cell? ⟨ab, o + j, .none⟩ = cs[j]?) {j : Nat} {k : IntKind} (hk : ks[j]? = .some (.some k)) :
    W.cell? ⟨ab, o + j, .none⟩ = .some (.int k (ci W ab (o + j))) ∧ (Lit.int k (ci W ab (o + j))).wf = true := by
  obtain ⟨v, hv, n, rfl, hw⟩ := hf.get hk
  have h1 := hc j (by rcases Nat.lt_or_ge j ks.length with h | h; exact h; rw [List.getElem?_eq_none h] at hk; cases hk)
  rw [hv] at h1
  have e : ci W ab (o + j) = n := by unfold ci; rw [h1]
  rw [e]
  exact ⟨h1, hw⟩
theorem cell_bool {W : World} {ab o : Nat} {ks : List (Option IntKind)} {cs : List Value} (hf : Fits ks cs) (hc : ∀ j, j < ks.length → W.cell? ⟨ab, o + j, .none⟩ = cs[j]?) {j : Nat} (hk : ks[j]? = .some .none) :
    W.cell? ⟨ab, o + j, .none⟩ = .some (.bool (cb W ab (o + j))) := by
  obtain ⟨v, hv, n, rfl⟩ := hf.get hk
  have h1 := hc j (by rcases Nat.lt_or_ge j ks.length with h | h; exact h; rw [List.getElem?_eq_none h] at hk; cases hk)
  rw [hv] at h1
  have e : cb W ab (o + j) = n := by unfold cb; rw [h1]
  rw [e]
  exact h1
/-- A slice that came in: its elements' cells. -/
def SlArg (ks : List (Option IntKind)) (W : World) (A : Option Addr) (n : Nat) : Prop := 0 < n → ∃ ab ao, A = .some ⟨ab, ao, .none⟩ ∧ ab < W.heap.size ∧
  ∀ i, i < n → ∃ cs, Fits ks cs ∧ ∀ j, j < ks.length → W.cell? ⟨ab, ao + i * ks.length + j, .none⟩ = cs[j]?
def ablk : Option Addr → Nat | .some a => a.block | .none => 0
def aoff : Option Addr → Nat | .some a => a.off | .none => 0
/-- What is known of one argument. -/
structure Arg (P : Program) (W : World) (t : TypeId) (v : Value) : Prop where
  flat : ∀ ks, flat P 8 t = .some ks → Fits ks v.cells.toList
  one : (P.underlying t = .some .bool → ∃ b, v = .bool b) ∧ (∀ k, P.underlying t = .some (.int k) → ∃ n, v = .int k n) ∧ (∀ fs, P.underlying t = .some (.struct fs) → ∃ cs, v = .agg cs)
  slice : ∀ e ks, P.underlying t = .some (.slice e) → Go.Proofs.Ytaholijnfekkgaa.flat P 8 e = .some ks → ks.length = P.cellsOf e → 0 < ks.length →
    ∃ A n cap, v = .slice A n cap ∧ n ≤ cap ∧ n * P.bytesOf e ≤ reachBytes ∧ SlArg ks W A n

theorem arg_of_trod {W : World} {t : TypeId} {v : Value} {d : DataW H} {p : List MemPlace} {r : Reach} {b0 : Nat} (hval : Value.okWide P W r b0 t v) (h : DataW.Trod enc P W base (fun _ => true) held t v d p)
    (hs : ∀ e elems spare, d = .slice elems spare → P.underlying t = .some (.slice e) → (elems.length + spare.length) * P.bytesOf e ≤ reachBytes) : Arg P W t v := by
  obtain ⟨fuel, hf⟩ := h
  refine ⟨fun ks hk => fits_of_trod 8 t ks fuel _ _ hk hf, ⟨fun hu => okWide_bool hu hval, fun k hu => okWide_int hu hval, fun fs hu => ?_⟩, fun e ks hu hk hlen h0 => ?_⟩
  · obtain ⟨cs, h, _⟩ := okWide_struct hu hval
    exact ⟨cs, h⟩
  obtain ⟨A, len, cap, rfl⟩ := okWide_slice hu hval
  rcases Go.Deep.open_slice hu hf with ⟨hcs, _⟩ | ⟨a, len', cap', m, n, D, Pl, hcs, _, hl, hm, hmm, hx, hi⟩
  · simp [Value.cells] at hcs
    obtain ⟨rfl, rfl, rfl⟩ := hcs
    exact ⟨_, _, _, rfl, Nat.le_refl _, by simp, fun h => by omega⟩
  · simp [Value.cells] at hcs
    obtain ⟨rfl, rfl, rfl⟩ := hcs
    have hlm : len ≤ m := by rw [hmm]; split <;> omega
    have hd : d = .slice ((List.range len).map D) ((List.range (m - len)).map fun j => D (len + j)) := by
      have := congrArg Prod.fst hx; exact this
    have hb := hs e _ _ hd hu
    simp only [List.length_map, List.length_range] at hb
    refine ⟨_, _, _, rfl, hl, Nat.le_trans (Nat.mul_le_mul_right _ (by omega)) hb, fun hn => ?_⟩
    obtain ⟨ab, ao, sp⟩ := a
    have hsp : sp = .none := by
      obtain ⟨cs', hc, ht⟩ := hi 0 (by omega)
      have hfit := fits_of_trod 8 e ks _ _ _ hk ht
      obtain ⟨_, _, hat⟩ := World.cells?_some hc
      have a0 := hat 0 (by omega)
      cases sp with
      | none => rfl
      | some x =>
        have hl0 := hfit.len
        rw [List.getElem?_eq_getElem (by omega)] at a0
        simp [Addr.add, World.cell?] at a0
        split at a0 <;> simp at a0
    subst hsp
    have add2 : ∀ i j, (Addr.add (Addr.add ⟨ab, ao, .none⟩ i) j) = ⟨ab, ao + i + j, .none⟩ := by
      intro i j
      unfold Addr.add
      by_cases h1 : i = 0 <;> by_cases h2 : j = 0 <;> simp [h1, h2]
    have key : ∀ i, i < len → ∃ cs, Fits ks cs ∧ ∀ j, j < ks.length → W.cell? ⟨ab, ao + i * ks.length + j, .none⟩ = cs[j]? := by
      intro i hil
      obtain ⟨cs', hc, ht⟩ := hi i (by omega)
      obtain ⟨_, _, hat⟩ := World.cells?_some hc
      refine ⟨cs', fits_of_trod 8 e ks _ _ _ hk ht, fun j hj => ?_⟩
      have := hat j (by omega)
      rw [add2, ← hlen] at this
      exact this
    refine ⟨ab, ao, rfl, ?_, key⟩
    obtain ⟨cs, hfit, hat⟩ := key 0 hn
    have k0 := hat 0 h0
    have hl0 := hfit.len
    rw [List.getElem?_eq_getElem (by omega)] at k0
    unfold World.cell? at k0
    rcases Nat.lt_or_ge ab W.heap.size with h | h
    · exact h
    · rw [Array.getElem?_eq_none h] at k0; cases k0

theorem trodAll_at : ∀ {ts : List TypeId} {vs : List Value} {ds : List (DataW H)} {ps : List MemPlace}, DataW.TrodAll enc P w base spare held ts vs ds ps → vs.length = ts.length ∧ ds.length = ts.length ∧
    ∀ (j : Nat) (t : TypeId) (v : Value), ts[j]? = .some t → vs[j]? = .some v → ∃ d p, ds[j]? = .some d ∧ DataW.Trod enc P w base spare held t v d p := by
  intro ts
  induction ts with
  | nil =>
    intro vs ds ps h
    obtain ⟨rfl, rfl, rfl⟩ := trodAll_nil h
    exact ⟨rfl, rfl, fun j t v h => by simp at h⟩
  | cons t ts ih =>
    intro vs ds ps h
    obtain ⟨v, vs, d, ds, p, q, rfl, rfl, rfl, h0, h1⟩ := trodAll_cons h
    obtain ⟨l1, l2, k⟩ := ih h1
    refine ⟨by simp [l1], by simp [l2], fun j t' v' ht hv => ?_⟩
    cases j with
    | zero => simp at ht hv; subst ht; subst hv; exact ⟨d, p, rfl, h0⟩
    | succ j => simp at ht hv; simpa using k j t' v' ht hv
end

/-- From a law's walk to what the row asks. -/
theorem lift {H : Type} {enc : TypeId × Value → H} {os : Os} (started : os.Started) {f : FuncId} {fn : Func} {s : ChangeSpec} {conds : List PathCond} {T : TypeId}
    (noInit : Try.checked.prog.inits.idxOf? f = .none) (hfn : Try.checked.prog.funcs[f]? = .some fn)
    (witness : ∃ (w : World) (tape : Tape) (i : Input), w.os = os ∧ (w.forCall tape i).Shaped Try.checked.prog ∧ i.vars = [] ∧ Input.okWide Try.checked.prog (w.forCall tape i) .any w.heap.size f i ∧
      s.pre6 enc Try.checked.prog fn conds false (w.forCall tape i).memory i.args ∧ ({} : Assume).holds Try.checked.prog (lone (Frame.enter Try.checked.prog f i.args .normal) [] (w.forCall tape i)))
    (hv : s.vars = []) (hts : fn.params.toList.all (fun t => Try.prog.readableRec t && decide (t < Try.prog.types.size)) = true)
    (hsf : ∀ ds : List (DataW H), ds.length = fn.params.toList.length → s.fn H (ds ++ []) = { results := [.lit (.bool true)], args := ds })
    (hrt : fn.resultTypes = #[T]) (hT : Try.prog.underlying T = .some .bool)
    (walk : ∀ (W : World) (args : Array Value), args.toList.length = fn.params.toList.length → (∀ (j : Nat) t v, fn.params[j]? = .some t → args[j]? = .some v → Arg Try.prog W t v) →
      Calls Try.prog f args W fun e w' => e = .returned (.bool true) ∧ Below W.heap.size W w') :
    ReturnsInHanded {} Try.checked os f .any (s.pre6 enc Try.prog fn conds false) (s.post enc Try.prog fn false true false false) := by
  refine returnsInHanded_of_change_sized (C := Try.checked) law_own started noInit hfn witness ?_
  intro W base args ds gs before hval hW hcnd hsz _
  have hW' := hW
  obtain ⟨p, q, hA, hV, rfl, hfz, hnd⟩ := hW
  rw [hv] at hV
  obtain ⟨rfl, rfl⟩ := trodVars_none hV
  obtain ⟨l1, l2, hat⟩ := trodAll_at hA
  refine (walk W args l1 fun j t v ht hv' => ?_).mono fun e W' ⟨he, hg⟩ => ⟨_, he, law_post hv hts hW' (hsf ds l2) hrt hT hg⟩
  obtain ⟨d, p', hd, hT'⟩ := hat j t v (by simpa using ht) (by simpa using hv')
  have htl : fn.params.toList[j]? = .some t := by simpa using ht
  have hl1 : (fn.params.toList ++ s.plain.varTypes Try.checked.prog)[j]? = .some t := by
    rw [List.getElem?_append_left (by rcases Nat.lt_or_ge j fn.params.toList.length with h | h; exact h; rw [List.getElem?_eq_none h] at htl; cases htl)]; exact htl
  have hl2 : (ds ++ [])[j]? = .some d := by simpa using hd
  exact arg_of_trod (hval j t v ht hv') hT' fun e elems spare he hu => sized_slice hsz (j := j) (t := t) (e := e) hl1 (by rw [← he]; exact hl2) hu
end Go.Proofs.Ytaholijnfekkgaa
