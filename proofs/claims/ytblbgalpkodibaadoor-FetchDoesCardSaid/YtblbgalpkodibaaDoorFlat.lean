/- Types without pointers, cell by cell; equality of such values. No program. -/
import Derived.WalkKit
import Derived.WalkLawsBesides
import Derived.ProofKit
import Derived.OpenShut
import Derived.Deep.Slices
import Derived.DeepKeys
namespace Go.Proofs.YtblbgalpkodibaaDoor
open Go.RowKit

/-- What a cell is: a bool (none), an integer of a kind. -/
def fitK : Option IntKind → Value → Prop
  | .none, v => ∃ x, v = .bool x
  | .some k, v => ∃ n, v = .int k n ∧ (Lit.int k n).wf = true
def Fits : List (Option IntKind) → List Value → Prop
  | [], [] => True
  | k :: ks, v :: vs => fitK k v ∧ Fits ks vs
  | _, _ => False
theorem Fits.len : ∀ {ks : List (Option IntKind)} {vs : List Value}, Fits ks vs → vs.length = ks.length := by
  intro ks
  induction ks with
  | nil => intro vs h; cases vs <;> first | rfl | exact h.elim
  | cons k ks ih =>
    intro vs h
    cases vs with
    | nil => exact h.elim
    | cons v vs => simp [ih h.2]
theorem Fits.append : ∀ {ks ls : List (Option IntKind)} {vs us : List Value}, Fits ks vs → Fits ls us → Fits (ks ++ ls) (vs ++ us) := by
  intro ks
  induction ks with
  | nil => intro ls vs us h k; cases vs <;> first | exact k | exact h.elim
  | cons k ks ih =>
    intro ls vs us h h2
    cases vs with
    | nil => exact h.elim
    | cons v vs => exact ⟨h.1, ih h.2 h2⟩
theorem Fits.get : ∀ {ks : List (Option IntKind)} {vs : List Value} {j : Nat} {k : Option IntKind}, Fits ks vs → ks[j]? = .some k → ∃ v, vs[j]? = .some v ∧ fitK k v := by
  intro ks
  induction ks with
  | nil => intro vs j k h hk; simp at hk
  | cons k ks ih =>
    intro vs j k' h hk
    cases vs with
    | nil => exact h.elim
    | cons v vs =>
      cases j with
      | zero => simp at hk; subst hk; exact ⟨v, rfl, h.1⟩
      | succ j => simp at hk; simpa using ih h.2 hk

def flatFields (g : TypeId → Option (List (Option IntKind))) (cells : TypeId → Nat) : List Field → Nat → Option (List (Option IntKind))
  | [], _ => .some []
  | fd :: fs, o => if fd.offset = o then (g fd.type).bind fun m => if m.length = cells fd.type then (flatFields g cells fs (o + m.length)).map (m ++ ·) else .none else .none
/-- The cells of a type without pointers, one by one. -/
def flat (P : Program) : Nat → TypeId → Option (List (Option IntKind))
  | 0, _ => .none
  | f + 1, T => match P.underlying T with
    | .some .bool => .some [.none]
    | .some (.int k) => .some [.some k]
    | .some (.struct fs) => (flatFields (flat P f) P.cellsOf fs.toList 0).bind fun l => if l.length = P.cellsOf T then .some l else .none
    | .some (.array n e) => (flat P f e).bind fun m => if m.length = P.cellsOf e ∧ n * m.length = P.cellsOf T then .some (List.replicate n m).flatten else .none
    | _ => .none

section
variable {H : Type} {enc : TypeId × Value → H} {P : Program} {w : World} {base : Nat} {spare : Nat → Bool} {held : Bool}
theorem fits_fields {g : TypeId → Option (List (Option IntKind))} {cells : TypeId → Nat} : ∀ (fs : List Field) (o : Nat) (l : List (Option IntKind)) (cs : List Value), flatFields g cells fs o = .some l → cs.length = o + l.length →
    (∀ fd ∈ fs, ∀ m, g fd.type = .some m → Fits m ((cs.drop fd.offset).take (cells fd.type))) → Fits l (cs.drop o) := by
  intro fs
  induction fs with
  | nil =>
    intro o l cs h hl _
    simp [flatFields] at h
    subst h
    rw [List.drop_eq_nil_of_le (by simp at hl; omega)]
    trivial
  | cons fd fs ih =>
    intro o l cs h hl hf
    simp only [flatFields] at h
    split at h
    case isFalse => cases h
    case isTrue ho =>
      cases hg : g fd.type with
      | none => rw [hg] at h; cases h
      | some m =>
        rw [hg] at h
        simp only [Option.bind_some] at h
        split at h
        case isFalse => cases h
        case isTrue hm =>
          obtain ⟨l', hl', rfl⟩ := Option.map_eq_some_iff.1 h
          have h1 := hf fd (by simp) m hg
          rw [ho, ← hm] at h1
          have h2 := ih (o + m.length) l' cs hl' (by simp at hl; omega) (fun fd' h' => hf fd' (by simp [h']))
          have h3 := h1.append h2
          rwa [← List.drop_drop, List.take_append_drop] at h3
theorem fits_rows : ∀ (n : Nat) (m : List (Option IntKind)) (cs : List Value), cs.length = n * m.length → (∀ i, i < n → Fits m ((cs.drop (i * m.length)).take m.length)) → Fits (List.replicate n m).flatten cs := by
  intro n m
  induction n with
  | zero =>
    intro cs h _
    have : cs = [] := List.eq_nil_of_length_eq_zero (by simpa using h)
    subst this
    trivial
  | succ n ih =>
    intro cs h hf
    have h1 := hf 0 (by omega)
    simp only [Nat.zero_mul, List.drop_zero] at h1
    have h2 := ih (cs.drop m.length) (by rw [List.length_drop, h, Nat.succ_mul]; omega) (fun i hi => by
      have := hf (i + 1) (by omega)
      rw [List.drop_drop, show m.length + i * m.length = (i + 1) * m.length by rw [Nat.succ_mul]; omega]
      exact this)
    have h3 := h1.append h2
    rw [List.take_append_drop] at h3
    simpa [List.replicate_succ] using h3
theorem fits_of_trod : ∀ (f : Nat) (T : TypeId) (ks : List (Option IntKind)) (fuel : Nat) (cs : List Value) (x : DataW H × List MemPlace), flat P f T = .some ks → DataW.trod enc P w base spare held fuel T cs = .some x → Fits ks cs := by
  intro f
  induction f with
  | zero => intro T ks fuel cs x h; cases h
  | succ f ih =>
    intro T ks fuel cs x h ht
    simp only [flat] at h
    split at h
    · rename_i hu
      cases h
      obtain ⟨b, rfl, _⟩ := DataW.trod_bool hu ht
      exact ⟨⟨b, rfl⟩, trivial⟩
    · rename_i k hu
      cases h
      obtain ⟨b, rfl, _, hw⟩ := DataW.trod_int hu ht
      exact ⟨⟨b, rfl, hw⟩, trivial⟩
    · rename_i fs hu
      obtain ⟨l, hl, h⟩ := Option.bind_eq_some_iff.1 h
      split at h
      case isFalse => cases h
      case isTrue hlen =>
        cases h
        obtain ⟨xs, n, _, _, hc, hxl, hf⟩ := DataW.trod_struct hu ht
        have := fits_fields fs.toList 0 ks cs hl (by omega) (fun fd hfd m hm => by
          obtain ⟨i, hi, he⟩ := List.getElem_of_mem hfd
          have hi2 : i < xs.length := by rw [hxl]; simpa using hi
          have h1 := hf i fd (by rw [← he]; simp)
          have hx : xs[i]? = .some xs[i] := List.getElem?_eq_getElem hi2
          rw [hx] at h1
          exact ih _ _ _ _ _ hm h1)
        simpa using this
    · rename_i n e hu
      obtain ⟨m, hm, h⟩ := Option.bind_eq_some_iff.1 h
      split at h
      case isFalse => cases h
      case isTrue hlen =>
        cases h
        obtain ⟨xs, k, _, _, hc, hxl, hf⟩ := DataW.trod_array hu ht
        refine fits_rows n m cs (by omega) (fun i hi => ?_)
        have h1 := hf i hi
        have hi2 : i < xs.length := by omega
        have hx : xs[i]? = .some xs[i] := List.getElem?_eq_getElem hi2
        rw [hx, ← hlen.1] at h1
        exact ih _ _ _ _ _ hm h1
    · cases h

/-- What a cell holds. -/
def ci (w : World) (b o : Nat) : Int := match w.cell? ⟨b, o, .none⟩ with | .some (.int _ n) => n | _ => 0
def cb (w : World) (b o : Nat) : Bool := match w.cell? ⟨b, o, .none⟩ with | .some (.bool n) => n | _ => false
theorem cell_int {W : World} {ab o : Nat} {ks : List (Option IntKind)} {cs : List Value} (hf : Fits ks cs) (hc : ∀ j, j < ks.length → W.cell? ⟨ab, o + j, .none⟩ = cs[j]?) {j : Nat} {k : IntKind} (hk : ks[j]? = .some (.some k)) :
    W.cell? ⟨ab, o + j, .none⟩ = .some (.int k (ci W ab (o + j))) ∧ (Lit.int k (ci W ab (o + j))).wf = true := by
  obtain ⟨v, hv, n, rfl, hw⟩ := hf.get hk
  have h1 := hc j (by rcases Nat.lt_or_ge j ks.length with h | h; exact h; rw [List.getElem?_eq_none h] at hk; cases hk)
  rw [hv] at h1
  have e : ci W ab (o + j) = n := by unfold ci; rw [h1]
  rw [e]
  exact ⟨h1, hw⟩
theorem cell_bool {W : World} {ab o : Nat} {ks : List (Option IntKind)} {cs : List Value} (hf : Fits ks cs) (hc : ∀ j, j < ks.length → W.cell? ⟨ab, o + j, .none⟩ = cs[j]?) {j : Nat} (hk : ks[j]? = .some .none) :
    W.cell? ⟨ab, o + j, .none⟩ = .some (.bool (cb W ab (o + j))) := by
  obtain ⟨v, hv, n, rfl⟩ := hf.get hk
  have h1 := hc j (by rcases Nat.lt_or_ge j ks.length with h | h; exact h; rw [List.getElem?_eq_none h] at hk; cases hk)
  rw [hv] at h1
  have e : cb W ab (o + j) = n := by unfold cb; rw [h1]
  rw [e]
  exact h1
/-- A slice that came in: its elements' cells. -/
def SlArg (ks : List (Option IntKind)) (W : World) (A : Option Addr) (n : Nat) : Prop := 0 < n → ∃ ab ao, A = .some ⟨ab, ao, .none⟩ ∧ ab < W.heap.size ∧
  ∀ i, i < n → ∃ cs, Fits ks cs ∧ ∀ j, j < ks.length → W.cell? ⟨ab, ao + i * ks.length + j, .none⟩ = cs[j]?
def ablk : Option Addr → Nat | .some a => a.block | .none => 0
def aoff : Option Addr → Nat | .some a => a.off | .none => 0
end

/-! ### equality -/
def litOf : Value → Lit
  | .int k n => .int k n
  | .bool b => .bool b
  | _ => .bool false
theorem fitK_lit {k : Option IntKind} {u v : Value} (hu : fitK k u) (hv : fitK k v) (h : litOf u = litOf v) : u = v := by
  cases k with
  | none => obtain ⟨x, rfl⟩ := hu; obtain ⟨y, rfl⟩ := hv; simp [litOf] at h; rw [h]
  | some k => obtain ⟨x, rfl, _⟩ := hu; obtain ⟨y, rfl, _⟩ := hv; simp [litOf] at h; rw [h]
theorem Fits.lit : ∀ {ks : List (Option IntKind)} {us vs : List Value}, Fits ks us → Fits ks vs → us.map litOf = vs.map litOf → us = vs := by
  intro ks
  induction ks with
  | nil => intro us vs h k _; cases us <;> cases vs <;> first | rfl | exact h.elim | exact k.elim
  | cons k ks ih =>
    intro us vs h k h2
    cases us with
    | nil => exact h.elim
    | cons u us =>
      cases vs with
      | nil => exact k.elim
      | cons v vs =>
        simp only [List.map_cons, List.cons.injEq] at h2
        rw [fitK_lit h.1 k.1 h2.1, ih h.2 k.2 h2.2]
theorem Fits.take_drop : ∀ {ks : List (Option IntKind)} {us : List Value} (a b : List (Option IntKind)), Fits ks us → ks = a ++ b → Fits a (us.take a.length) ∧ Fits b (us.drop a.length) := by
  intro ks us a
  induction a generalizing ks us with
  | nil => intro b h e; subst e; exact ⟨trivial, h⟩
  | cons x a ih =>
    intro b h e
    subst e
    cases us with
    | nil => exact h.elim
    | cons u us =>
      obtain ⟨h1, h2⟩ := h
      obtain ⟨h3, h4⟩ := ih b h2 rfl
      exact ⟨⟨h1, h3⟩, h4⟩
section
variable {P : Program}
/-- The names of the fields are not blank. -/
def named (P : Program) : Nat → TypeId → Bool
  | 0, _ => false
  | f + 1, T => match P.underlying T with
    | .some .bool | .some (.int _) => true
    | .some (.struct fs) => fs.all (·.name != "_") && fs.all fun g => named P f g.type
    | .some (.array _ e) => named P f e
    | _ => false
theorem lits_fields {g : TypeId → Option (List (Option IntKind))} {cells : TypeId → Nat} {kl : TypeId → List Value → Option (List Lit)} : ∀ (fs : List Field) (o : Nat) (l : List (Option IntKind)) (cs : List Value), flatFields g cells fs o = .some l → Fits l (cs.drop o) →
    (∀ fd ∈ fs, ∀ m vs, g fd.type = .some m → Fits m vs → kl fd.type vs = .some (vs.map litOf)) → (fs.mapM fun f => kl f.type ((cs.drop f.offset).take (cells f.type))).map List.flatten = .some ((cs.drop o).map litOf) := by
  intro fs
  induction fs with
  | nil =>
    intro o l cs h hf _
    simp [flatFields] at h
    subst h
    have := hf.len
    have : cs.drop o = [] := List.eq_nil_of_length_eq_zero (by simpa using this)
    simp [this]
  | cons fd fs ih =>
    intro o l cs h hf hk
    simp only [flatFields] at h
    split at h
    case isFalse => cases h
    case isTrue ho =>
      cases hg : g fd.type with
      | none => rw [hg] at h; cases h
      | some m =>
        rw [hg] at h
        simp only [Option.bind_some] at h
        split at h
        case isFalse => cases h
        case isTrue hm =>
          obtain ⟨l', hl', rfl⟩ := Option.map_eq_some_iff.1 h
          obtain ⟨h1, h2⟩ := hf.take_drop m l' rfl
          rw [List.drop_drop] at h2
          have k1 := hk fd (by simp) m _ hg h1
          have k2 := ih (o + m.length) l' cs hl' h2 (fun fd' h' => hk fd' (by simp [h']))
          obtain ⟨ll, hll, he⟩ := Option.map_eq_some_iff.1 k2
          rw [hm] at k1
          subst ho
          rw [List.mapM_cons, k1, hll]
          simp only [Option.bind_eq_bind, Option.bind_some, Option.pure_def, Option.map_some, List.flatten_cons, he, Option.some.injEq]
          rw [← List.map_append, hm, ← List.drop_drop, List.take_append_drop]
theorem lits_rows {m : List (Option IntKind)} {kl : List Value → Option (List Lit)} (hk : ∀ vs, Fits m vs → kl vs = .some (vs.map litOf)) : ∀ (n : Nat) (cs : List Value), Fits (List.replicate n m).flatten cs →
    ((List.range n).mapM fun i => kl ((cs.drop (i * m.length)).take m.length)).map List.flatten = .some (cs.map litOf) := by
  have key : ∀ (n j : Nat) (cs : List Value), Fits (List.replicate n m).flatten (cs.drop (j * m.length)) → ((List.range' j n).mapM fun i => kl ((cs.drop (i * m.length)).take m.length)).map List.flatten = .some ((cs.drop (j * m.length)).map litOf) := by
    intro n
    induction n with
    | zero =>
      intro j cs h
      have := h.len
      have : cs.drop (j * m.length) = [] := List.eq_nil_of_length_eq_zero (by simpa using this)
      simp [this]
    | succ n ih =>
      intro j cs h
      rw [List.replicate_succ, List.flatten_cons] at h
      obtain ⟨h1, h2⟩ := h.take_drop m _ rfl
      rw [List.drop_drop, show j * m.length + m.length = (j + 1) * m.length by rw [Nat.succ_mul]] at h2
      have k1 := hk _ h1
      have k2 := ih (j + 1) cs h2
      obtain ⟨ll, hll, he⟩ := Option.map_eq_some_iff.1 k2
      rw [List.range'_succ, List.mapM_cons, k1, hll]
      simp only [Option.bind_eq_bind, Option.bind_some, Option.pure_def, Option.map_some, List.flatten_cons, he, Option.some.injEq]
      rw [← List.map_append, show (j + 1) * m.length = j * m.length + m.length by rw [Nat.succ_mul], ← List.drop_drop, List.take_append_drop]
  intro n cs h
  have := key n 0 cs (by simpa using h)
  simpa [List.range_eq_range'] using this
theorem keyLits_of_fits : ∀ (f : Nat) (T : TypeId) (ks : List (Option IntKind)) (cs : List Value), flat P f T = .some ks → named P f T = true → Fits ks cs → P.keyLits f T cs = .some (cs.map litOf) := by
  intro f
  induction f with
  | zero => intro T ks cs h; cases h
  | succ f ih =>
    intro T ks cs h hn hf
    simp only [flat] at h
    simp only [named] at hn
    split at h
    · rename_i hu
      cases h
      have hl := hf.len
      match cs, hl with
      | [v], _ =>
        obtain ⟨⟨b, rfl⟩, _⟩ := hf
        simp [Program.keyLits, hu, litOf]
    · rename_i k hu
      cases h
      have hl := hf.len
      match cs, hl with
      | [v], _ =>
        obtain ⟨⟨b, rfl, hw⟩, _⟩ := hf
        simp [Program.keyLits, hu, litOf, hw]
    · rename_i fs hu
      rw [hu] at hn
      simp only [Bool.and_eq_true] at hn
      obtain ⟨l, hl, h⟩ := Option.bind_eq_some_iff.1 h
      split at h
      case isFalse => cases h
      case isTrue hlen =>
        cases h
        have hl2 := hf.len
        unfold Program.keyLits
        simp only [hu]
        rw [if_pos ⟨by omega, hn.1⟩]
        have := lits_fields (kl := P.keyLits f) fs.toList 0 ks cs hl (by simpa using hf) (fun fd hfd m vs hm hv => ih fd.type m vs hm (Array.all_eq_true'.1 hn.2 fd (by simpa using hfd)) hv)
        simpa using this
    · rename_i n e hu
      rw [hu] at hn
      simp only at hn
      obtain ⟨m, hm, h⟩ := Option.bind_eq_some_iff.1 h
      split at h
      case isFalse => cases h
      case isTrue hlen =>
        cases h
        have hl2 := hf.len
        unfold Program.keyLits
        simp only [hu]
        rw [if_pos (by rw [hl2]; simp [hlen.2])]
        have := lits_rows (kl := P.keyLits f e) (fun vs hv => ih e m vs hm hn hv) n cs hf
        rw [hlen.1] at this
        exact this
    · cases h
/-- Two values of a struct or array without pointers: equal just if their cells are. -/
theorem run_equal_flat {w : World} {T : TypeId} {ks : List (Option IntKind)} {xs ys : Array Value} {d : Nat} (hf : flat P 8 T = .some ks) (hn : named P 8 T = true) (hk : P.keyTypeAt 8 T = true) (ha : (Value.agg xs).formed P T = true) (hb : (Value.agg ys).formed P T = true)
    (hx : Fits ks xs.toList) (hy : Fits ks ys.toList) : ∃ r : Bool, (Op.equalIn (d + 8) T (.agg xs) (.agg ys)).run P w = .ok r w ∧ (r = true ↔ xs = ys) := by
  obtain ⟨r, h1, h2⟩ := run_equalIn_deep d 8 T hk w 8 8 (.agg xs) (.agg ys) _ _ ha hb (keyLits_of_fits 8 T ks _ hf hn hx) (keyLits_of_fits 8 T ks _ hf hn hy)
  refine ⟨r, h1, h2.trans ⟨fun h => ?_, fun h => by rw [h]⟩⟩
  have := hx.lit hy h
  exact Array.toList_inj.1 this
theorem run_eql_same {w : World} {T : TypeId} {ks : List (Option IntKind)} {xs : Array Value} (hf : flat P 8 T = .some ks) (hn : named P 8 T = true) (hk : P.keyTypeAt 8 T = true) (ha : (Value.agg xs).formed P T = true) (hx : Fits ks xs.toList) :
    (binOp .eql T (.agg xs) (.agg xs)).run P w = .ok (.bool true) w := by
  obtain ⟨r, h1, h2⟩ := run_equal_flat (d := 9992) (w := w) hf hn hk ha ha hx hx
  rw [run_eql_struct, h1, h2.2 rfl]; rfl
theorem run_eql_diff {w : World} {T : TypeId} {ks : List (Option IntKind)} {xs ys : Array Value} (hf : flat P 8 T = .some ks) (hn : named P 8 T = true) (hk : P.keyTypeAt 8 T = true) (ha : (Value.agg xs).formed P T = true) (hb : (Value.agg ys).formed P T = true) (hx : Fits ks xs.toList) (hy : Fits ks ys.toList) (hne : xs ≠ ys) :
    (binOp .eql T (.agg xs) (.agg ys)).run P w = .ok (.bool false) w := by
  obtain ⟨r, h1, h2⟩ := run_equal_flat (d := 9992) (w := w) hf hn hk ha hb hx hy
  cases r with
  | true => exact absurd (h2.1 rfl) hne
  | false => rw [run_eql_struct, h1]; rfl
theorem run_neq_same {w : World} {T : TypeId} {ks : List (Option IntKind)} {xs : Array Value} (hf : flat P 8 T = .some ks) (hn : named P 8 T = true) (hk : P.keyTypeAt 8 T = true) (ha : (Value.agg xs).formed P T = true) (hx : Fits ks xs.toList) :
    (binOp .neq T (.agg xs) (.agg xs)).run P w = .ok (.bool false) w := by
  obtain ⟨r, h1, h2⟩ := run_equal_flat (d := 9992) (w := w) hf hn hk ha ha hx hx
  rw [run_neq_struct, h1, h2.2 rfl]; rfl
theorem run_neq_diff {w : World} {T : TypeId} {ks : List (Option IntKind)} {xs ys : Array Value} (hf : flat P 8 T = .some ks) (hn : named P 8 T = true) (hk : P.keyTypeAt 8 T = true) (ha : (Value.agg xs).formed P T = true) (hb : (Value.agg ys).formed P T = true) (hx : Fits ks xs.toList) (hy : Fits ks ys.toList) (hne : xs ≠ ys) :
    (binOp .neq T (.agg xs) (.agg ys)).run P w = .ok (.bool true) w := by
  obtain ⟨r, h1, h2⟩ := run_equal_flat (d := 9992) (w := w) hf hn hk ha hb hx hy
  cases r with
  | true => exact absurd (h2.1 rfl) hne
  | false => rw [run_neq_struct, h1]; rfl
end
end Go.Proofs.YtblbgalpkodibaaDoor
