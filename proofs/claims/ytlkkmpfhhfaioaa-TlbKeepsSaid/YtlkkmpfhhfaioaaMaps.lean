/- Maps whose keys are structs: look-up, store, delete, range; what a map holds as a function. No program. -/
import Derived.Test.YtlkkmpfhhfaioaaHeap
import Derived.Test.YtlkkmpfhhfaioaaFlat
namespace Go.Proofs.Ytlkkmpfhhfaioaa
open Go.RowKit

/-- Keys of type kT: how they are written, which are legal, that they are compared. -/
structure KeyLaw (P : Program) (mT kT eT : TypeId) {κ : Type} [DecidableEq κ] (enc : κ → Value) (V : κ → Prop) : Prop where
  typ : P.underlying mT = some (.map kT eT)
  chk : ∀ e k w, V k → (Instr.checkKey e 10000 kT (enc k)).run P w = .ok () w
  eq : ∀ a b w, V a → V b → (Op.equal kT (enc a) (enc b)).run P w = .ok (decide (a = b)) w
  now : ∃ d, P.underlying kT = some d ∧ ∀ a b, Instr.sameNow d (enc a) (enc b) = none
  stay : ∀ k, Instr.sameBits 10000 (enc k) (enc k) = true

/-- An entry: key, value, stamp. -/
def mkE {κ : Type} (enc : κ → Value) (x : κ × Value × Nat) : MapEntry := ⟨enc x.1, x.2.1, x.2.2⟩
def look {κ : Type} [DecidableEq κ] (L : List (κ × Value × Nat)) (k : κ) : Option Value := (L.find? fun x => decide (x.1 = k)).map fun x => x.2.1
structure Good {κ : Type} (V : κ → Prop) (L : List (κ × Value × Nat)) (clock : Nat) : Prop where
  keys : (L.map (·.1)).Nodup
  borns : (L.map (·.2.2)).Nodup
  lt : ∀ x ∈ L, x.2.2 < clock
  val : ∀ x ∈ L, V x.1

section
variable {P : Program} {mT kT eT : TypeId} {κ : Type} [DecidableEq κ] {enc : κ → Value} {V : κ → Prop}
omit [DecidableEq κ] in
theorem findNow_none {d : TypeDesc} (h : ∀ a b : κ, Instr.sameNow d (enc a) (enc b) = none) (k : κ) (L : List (κ × Value × Nat)) (i : Nat) (hL : L ≠ []) : Instr.findNow d (enc k) (L.map (mkE enc)) i = none := by
  cases L with
  | nil => exact absurd rfl hL
  | cons x L => simp [Instr.findNow, mkE, h]
theorem run_findAsking (hk : KeyLaw P mT kT eT enc V) {k : κ} (hv : V k) (w : World) : ∀ (L : List (κ × Value × Nat)) (i : Nat), (∀ x ∈ L, V x.1) →
    (Instr.findAsking kT (enc k) (L.map (mkE enc)) i).run P w = .ok ((L.findIdx? fun x => decide (x.1 = k)).bind fun j => (L[j]?).map fun x => (i + j, x.2.1)) w := by
  intro L
  induction L with
  | nil => intro i _; simp [Instr.findAsking]
  | cons x L ih =>
    intro i hL
    simp only [List.map_cons, Instr.findAsking, mkE, Sem.run_bind, hk.eq k x.1 w hv (hL x (by simp)), Result.andThen_ok]
    by_cases h : k = x.1
    · subst h
      simp [List.findIdx?_cons]
    · have h' : ¬ x.1 = k := fun e => h e.symm
      simp only [h, decide_false, Bool.false_eq_true, if_false, List.findIdx?_cons, h']
      rw [ih (i + 1) (fun y hy => hL y (by simp [hy]))]
      cases hf : L.findIdx? fun x => decide (x.1 = k) with
      | none => simp
      | some j => simp; congr 1; funext y; simp; omega
theorem run_findKey (hk : KeyLaw P mT kT eT enc V) {k : κ} (hv : V k) (w : World) (L : List (κ × Value × Nat)) (hL : ∀ x ∈ L, V x.1) :
    (Instr.findKey kT (enc k) (L.map (mkE enc))).run P w = .ok ((L.findIdx? fun x => decide (x.1 = k)).bind fun j => (L[j]?).map fun x => (j, x.2.1)) w := by
  obtain ⟨d, hd, hn⟩ := hk.now
  unfold Instr.findKey
  simp only [Sem.run_bind, run_underlying hd, Result.andThen_ok]
  by_cases hL0 : L = []
  · subst hL0
    simp [Instr.findNow]
  · rw [findNow_none hn k L 0 hL0]
    simp only
    have := run_findAsking hk hv w L 0 hL
    simpa using this
theorem look_idx (L : List (κ × Value × Nat)) (k : κ) : ((L.findIdx? fun x => decide (x.1 = k)).bind fun j => (L[j]?).map fun x => (j, x.2.1)).map (·.2) = look L k := by
  unfold look
  induction L with
  | nil => simp
  | cons x L ih =>
    by_cases h : x.1 = k
    · simp [List.findIdx?_cons, h]
    · rw [List.find?_cons_of_neg (by simpa using h), ← ih]
      simp only [List.findIdx?_cons, h, decide_false, Bool.false_eq_true, if_false]
      cases L.findIdx? fun x => decide (x.1 = k) with
      | none => simp
      | some j => simp [Option.map_map]; cases L[j]? <;> rfl

/-- v, ok := m[k]. -/
theorem run_lookupK (hk : KeyLaw P mT kT eT enc V) {k : κ} (hv : V k) {w : World} {bm : Nat} {L : List (κ × Value × Nat)} {clock : Nat} (hg : Good V L clock) (hh : w.heap[bm]? = some (.map (L.map (mkE enc)).toArray clock)) {z : Value} (hz : (zeroValue eT).run P w = .ok z w) :
    (Instr.lookup mT (.map (some bm)) (enc k) true).run P w = .ok (.tuple #[(look L k).getD z, .bool (look L k).isSome]) w := by
  have h1 := run_findKey hk hv w L hg.val
  rw [← look_idx]
  unfold Instr.lookup
  simp only [Sem.run_bind, run_underlying hk.typ, Result.andThen_ok, getObj, Sem.run, hh]
  generalize ((L.findIdx? fun x => decide (x.1 = k)).bind fun j => (L[j]?).map fun x => (j, x.2.1)) = r at h1 ⊢
  cases r with
  | none => simp [hz, h1, hk.chk _ k w hv]
  | some p => simp [h1, hk.chk _ k w hv]

theorem look_good {L : List (κ × Value × Nat)} {clock : Nat} (hg : Good V L clock) {x : κ × Value × Nat} (hx : x ∈ L) : look L x.1 = some x.2.1 := by
  unfold look
  have hn := hg.keys
  induction L with
  | nil => cases hx
  | cons y L ih =>
    simp only [List.map_cons, List.nodup_cons] at hn
    rcases List.mem_cons.1 hx with rfl | hx
    · simp
    · have hne : ¬ y.1 = x.1 := fun e => hn.1 (by rw [e]; exact List.mem_map_of_mem hx)
      rw [List.find?_cons_of_neg (by simpa using hne)]
      exact ih ⟨hn.2, (List.nodup_cons.1 (by simpa using hg.borns)).2, fun z hz => hg.lt z (by simp [hz]), fun z hz => hg.val z (by simp [hz])⟩ hx hn.2

/-! ### store, delete -/
def upd (L : List (κ × Value × Nat)) (k : κ) (v : Value) : List (κ × Value × Nat) := match L with
  | [] => []
  | x :: L => if x.1 = k then (k, v, x.2.2) :: L else x :: upd L k v
def del (L : List (κ × Value × Nat)) (k : κ) : List (κ × Value × Nat) := match L with
  | [] => []
  | x :: L => if x.1 = k then L else x :: del L k
theorem look_cons (x : κ × Value × Nat) (L : List (κ × Value × Nat)) (k : κ) : look (x :: L) k = if x.1 = k then some x.2.1 else look L k := by
  unfold look
  by_cases h : x.1 = k
  · simp [h]
  · rw [List.find?_cons_of_neg (by simpa using h), if_neg h]
theorem look_none {L : List (κ × Value × Nat)} {k : κ} (h : ∀ x ∈ L, x.1 ≠ k) : look L k = none := by
  unfold look
  rw [List.find?_eq_none.2 (fun x hx => by simpa using h x hx)]; rfl
theorem upd_keys (L : List (κ × Value × Nat)) (k : κ) (v : Value) : (upd L k v).map (·.1) = L.map (·.1) := by
  induction L with
  | nil => rfl
  | cons x L ih =>
    unfold upd
    split
    · rename_i h; simp [h]
    · simp [ih]
theorem upd_borns (L : List (κ × Value × Nat)) (k : κ) (v : Value) : (upd L k v).map (·.2.2) = L.map (·.2.2) := by
  induction L with
  | nil => rfl
  | cons x L ih =>
    unfold upd
    split
    · simp
    · simp [ih]
theorem upd_look (L : List (κ × Value × Nat)) (k : κ) (v : Value) (hk : k ∈ L.map (·.1)) (k' : κ) : look (upd L k v) k' = if k' = k then some v else look L k' := by
  induction L with
  | nil => cases hk
  | cons x L ih =>
    unfold upd
    by_cases h : x.1 = k
    · rw [if_pos h, look_cons, look_cons]
      by_cases h2 : k' = k
      · simp [h2]
      · rw [if_neg (fun e => h2 e.symm), if_neg h2, if_neg (fun e => h2 (by rw [← e, h]))]
    · rw [if_neg h, look_cons, look_cons, ih (by simpa [Ne.symm h, eq_comm] using hk)]
      by_cases h2 : x.1 = k'
      · have : ¬ k' = k := fun e => h (by rw [h2, e])
        simp [h2, this]
      · simp [h2]
theorem del_sub (L : List (κ × Value × Nat)) (k : κ) : (del L k).Sublist L := by
  induction L with
  | nil => exact List.Sublist.refl _
  | cons x L ih =>
    unfold del
    split
    · exact List.sublist_cons_self _ _
    · exact ih.cons_cons _
theorem del_look {L : List (κ × Value × Nat)} (hn : (L.map (·.1)).Nodup) (k k' : κ) : look (del L k) k' = if k' = k then none else look L k' := by
  induction L with
  | nil => simp [del, look]
  | cons x L ih =>
    simp only [List.map_cons, List.nodup_cons] at hn
    unfold del
    by_cases h : x.1 = k
    · rw [if_pos h, look_cons]
      by_cases h2 : k' = k
      · subst h2
        rw [if_pos rfl]
        exact look_none fun y hy e => hn.1 (by rw [h, ← e]; exact List.mem_map_of_mem hy)
      · rw [if_neg h2, if_neg (fun e => h2 (by rw [← e, h]))]
    · rw [if_neg h, look_cons, look_cons, ih hn.2]
      by_cases h2 : x.1 = k'
      · have : ¬ k' = k := fun e => h (by rw [h2, e])
        simp [h2, this]
      · simp [h2]
theorem Good.upd {L : List (κ × Value × Nat)} {clock : Nat} (h : Good V L clock) {k : κ} (hv : V k) (v : Value) : Good V (upd L k v) clock := by
  refine ⟨by rw [upd_keys]; exact h.keys, by rw [upd_borns]; exact h.borns, fun x hx => ?_, fun x hx => ?_⟩
  · have : x.2.2 ∈ (Go.Proofs.Ytlkkmpfhhfaioaa.upd L k v).map (·.2.2) := List.mem_map_of_mem hx
    rw [upd_borns] at this
    obtain ⟨y, hy, e⟩ := List.mem_map.1 this
    rw [← e]; exact h.lt y hy
  · have : x.1 ∈ (Go.Proofs.Ytlkkmpfhhfaioaa.upd L k v).map (·.1) := List.mem_map_of_mem hx
    rw [upd_keys] at this
    obtain ⟨y, hy, e⟩ := List.mem_map.1 this
    rw [← e]; exact h.val y hy
omit [DecidableEq κ] in
theorem Good.sub {L L' : List (κ × Value × Nat)} {clock : Nat} (h : Good V L clock) (hs : L'.Sublist L) : Good V L' clock :=
  ⟨h.keys.sublist (hs.map _), h.borns.sublist (hs.map _), fun x hx => h.lt x (hs.subset hx), fun x hx => h.val x (hs.subset hx)⟩
omit [DecidableEq κ] in
theorem Good.push {L : List (κ × Value × Nat)} {clock : Nat} (h : Good V L clock) {k : κ} (hv : V k) (hk : k ∉ L.map (·.1)) (v : Value) : Good V (L ++ [(k, v, clock)]) (clock + 1) := by
  refine ⟨?_, ?_, fun x hx => ?_, fun x hx => ?_⟩
  · rw [List.map_append, List.nodup_append]
    refine ⟨h.keys, by simp, fun a ha b hb => ?_⟩
    simp at hb; subst hb
    exact fun e => hk (e ▸ ha)
  · rw [List.map_append, List.nodup_append]
    refine ⟨h.borns, by simp, fun a ha b hb => ?_⟩
    simp at hb; subst hb
    obtain ⟨y, hy, rfl⟩ := List.mem_map.1 ha
    have := h.lt y hy; omega
  · rcases List.mem_append.1 hx with h1 | h1
    · have := h.lt x h1; omega
    · simp at h1; subst h1; simp
  · rcases List.mem_append.1 hx with h1 | h1
    · exact h.val x h1
    · simp at h1; subst h1; exact hv
theorem push_look (L : List (κ × Value × Nat)) (k : κ) (v : Value) (b : Nat) (hk : k ∉ L.map (·.1)) (k' : κ) : look (L ++ [(k, v, b)]) k' = if k' = k then some v else look L k' := by
  induction L with
  | nil => simp only [List.nil_append]; rw [look_cons]; simp [look, eq_comm]
  | cons x L ih =>
    simp only [List.map_cons, List.mem_cons, not_or] at hk
    rw [List.cons_append, look_cons, look_cons, ih hk.2]
    by_cases h2 : x.1 = k'
    · have : ¬ k' = k := fun e => hk.1 (by rw [h2, e])
      simp [h2, this]
    · simp [h2]
theorem idx_upd (L : List (κ × Value × Nat)) (k : κ) (v : Value) {j : Nat} (h : (L.findIdx? fun x => decide (x.1 = k)) = some j) :
    (∃ x, L[j]? = some x ∧ x.1 = k) ∧ ((L.map (mkE enc)).modify j fun e => { e with key := enc k, val := v }) = (upd L k v).map (mkE enc) ∧ (L.map (mkE enc)).eraseIdx j = (del L k).map (mkE enc) := by
  induction L generalizing j with
  | nil => simp at h
  | cons x L ih =>
    rw [List.findIdx?_cons] at h
    by_cases hx : x.1 = k
    · simp [hx] at h
      subst h
      refine ⟨⟨x, rfl, hx⟩, ?_, ?_⟩
      · simp [upd, hx, mkE]
      · simp [del, hx]
    · simp only [hx, decide_false, Bool.false_eq_true, if_false] at h
      cases hf : L.findIdx? fun x => decide (x.1 = k) with
      | none => rw [hf] at h; cases h
      | some j' =>
        rw [hf] at h
        simp at h
        subst h
        obtain ⟨h1, h2, h3⟩ := ih hf
        refine ⟨by simpa using h1, ?_, ?_⟩
        · simp [upd, hx, h2]
        · simp [del, hx, h3]
theorem idx_none (L : List (κ × Value × Nat)) (k : κ) (h : (L.findIdx? fun x => decide (x.1 = k)) = none) : k ∉ L.map (·.1) := by
  intro hm
  obtain ⟨x, hx, e⟩ := List.mem_map.1 hm
  rw [List.findIdx?_eq_none_iff] at h
  have := h x hx
  simp [e] at this
theorem del_none (L : List (κ × Value × Nat)) (k : κ) (h : k ∉ L.map (·.1)) : del L k = L := by
  induction L with
  | nil => rfl
  | cons x L ih =>
    simp only [List.map_cons, List.mem_cons, not_or] at h
    unfold del
    rw [if_neg (fun e => h.1 e.symm), ih h.2]
def setObjW (w : World) (r : Nat) (o : Obj) : World := { w with heap := w.heap.setIfInBounds r o }
theorem run_getMap {w : World} {bm : Nat} {es : Array MapEntry} {clock : Nat} (hh : w.heap[bm]? = some (.map es clock)) : (getObj bm).run P w = .ok (.map es clock) w := by
  simp [getObj, Sem.run, hh]
theorem run_setMap {w : World} {bm : Nat} {es es' : Array MapEntry} {clock clock' : Nat} (hh : w.heap[bm]? = some (.map es clock)) : (setObj bm (.map es' clock')).run P w = .ok () (setObjW w bm (.map es' clock')) := by
  simp [setObj, Sem.run, hh, setObjW]
/-- m[k] = v. -/
theorem run_updateK (hk : KeyLaw P mT kT eT enc V) {k : κ} (hv : V k) {w : World} {bm : Nat} {L : List (κ × Value × Nat)} {clock : Nat} (hg : Good V L clock) (hh : w.heap[bm]? = some (.map (L.map (mkE enc)).toArray clock)) (v : Value) :
    ∃ L' clock', (Instr.mapUpdate mT (.map (some bm)) (enc k) v).run P w = .ok () (setObjW w bm (.map (L'.map (mkE enc)).toArray clock')) ∧ Good V L' clock' ∧ ∀ k', look L' k' = if k' = k then some v else look L k' := by
  have h1 := run_findKey hk hv w L hg.val
  cases hf : L.findIdx? fun x => decide (x.1 = k) with
  | none =>
    rw [hf] at h1
    simp only [Option.bind_none] at h1
    have hn := idx_none L k hf
    refine ⟨L ++ [(k, v, clock)], clock + 1, ?_, hg.push hv hn v, push_look L k v clock hn⟩
    unfold Instr.mapUpdate
    simp only [Sem.run_bind, run_underlying hk.typ, Result.andThen_ok, run_getMap hh, hk.chk _ k w hv, h1]
    rw [run_setMap hh]
    simp [mkE]
  | some j =>
    obtain ⟨⟨x, hx, hxk⟩, h2, _⟩ := idx_upd (enc := enc) L k v hf
    rw [hf] at h1
    simp only [Option.bind_some, hx, Option.map_some] at h1
    have hm : k ∈ L.map (·.1) := List.mem_map.2 ⟨x, List.mem_of_getElem? hx, hxk⟩
    refine ⟨Go.Proofs.Ytlkkmpfhhfaioaa.upd L k v, clock, ?_, hg.upd hv v, upd_look L k v hm⟩
    unfold Instr.mapUpdate
    have hkey : (((L.map (mkE enc)).toArray[j]?).map (·.key)).getD (enc k) = enc k := by
      simp [hx, mkE, hxk]
    simp only [Sem.run_bind, run_underlying hk.typ, Result.andThen_ok, run_getMap hh, hk.chk _ k w hv, h1]
    rw [hkey]
    unfold Instr.keyThatStays
    simp only [hk.stay, if_true, Sem.run_pure, Result.andThen_ok]
    have hmod : ((L.map (mkE enc)).toArray.modify j fun e => { e with key := enc k, val := v }) = ((Go.Proofs.Ytlkkmpfhhfaioaa.upd L k v).map (mkE enc)).toArray := by
      rw [← h2]; simp
    rw [hmod, run_setMap hh]
/-- delete(m, k). -/
theorem run_deleteK (hk : KeyLaw P mT kT eT enc V) {k : κ} (hv : V k) {w : World} {bm : Nat} {L : List (κ × Value × Nat)} {clock : Nat} (hg : Good V L clock) (hh : w.heap[bm]? = some (.map (L.map (mkE enc)).toArray clock)) (ts : Array TypeId) (ht : ts[0]? = some mT) (ty : TypeId) :
    ∃ L', (Builtin.delete_ ts ty #[.map (some bm), enc k]).run P w = .ok (.tuple #[]) (setObjW w bm (.map (L'.map (mkE enc)).toArray clock)) ∧ Good V L' clock ∧ ∀ k', look L' k' = if k' = k then none else look L k' := by
  have h1 := run_findKey hk hv w L hg.val
  refine ⟨Go.Proofs.Ytlkkmpfhhfaioaa.del L k, ?_, hg.sub (del_sub L k), del_look hg.keys k⟩
  unfold Builtin.delete_
  have e0 : (#[Value.map (some bm), enc k] : Array Value)[0]? = some (.map (some bm)) := rfl
  have e1 : (#[Value.map (some bm), enc k] : Array Value)[1]? = some (enc k) := rfl
  simp only [ht, e0, e1, Sem.run_bind, run_underlying hk.typ, Result.andThen_ok, run_getMap hh, hk.chk _ k w hv, h1]
  cases hf : L.findIdx? fun x => decide (x.1 = k) with
  | none =>
    simp only [Option.bind_none]
    rw [Sem.run_bind, run_setMap hh, del_none L k (idx_none L k hf)]
    rfl
  | some j =>
    obtain ⟨⟨x, hx, hxk⟩, _, h3⟩ := idx_upd (enc := enc) L k undef hf
    simp only [Option.bind_some, hx, Option.map_some]
    have hj : j < L.length := (List.getElem?_eq_some_iff.1 hx).1
    have her : (L.map (mkE enc)).toArray.eraseIdxIfInBounds j = ((Go.Proofs.Ytlkkmpfhhfaioaa.del L k).map (mkE enc)).toArray := by
      rw [← h3]
      simp [Array.eraseIdxIfInBounds, hj]
    rw [her, Sem.run_bind, run_setMap hh]
    rfl

/-! ### a map as a function -/
def HP.mp (enc : κ → Value) (V : κ → Prop) (bm : Nat) (F : κ → Option Value) : HP where
  holds w c := (∃ L clock, w.heap[bm]? = some (.map (L.map (mkE enc)).toArray clock) ∧ Good V L clock ∧ ∀ k, look L k = F k) ∧ c = ⟨fun x => x = bm, fun _ => False⟩
  loc := by rintro w w' c ⟨⟨L, clock, h, r⟩, rfl⟩ hk; exact ⟨⟨L, clock, (hk bm (.inl rfl)).trans h, r⟩, rfl⟩
  lt := by
    rintro w c ⟨⟨L, clock, h, r⟩, rfl⟩ k hk
    rcases hk with rfl | hk
    · exact lt_of_heap' h
    · exact hk.elim
theorem grown_setObjW (w : World) (r : Nat) (o : Obj) : w.grownBy (setObjW w r o) (some r) :=
  ⟨rfl, rfl, rfl, by simp [setObjW], fun i _ hne => by simp only [setObjW]; rw [Array.getElem?_setIfInBounds_ne]; exact fun e => hne (by rw [e])⟩
theorem heap_setObjW {w : World} {r : Nat} {o o' : Obj} (h : w.heap[r]? = some o) : (setObjW w r o').heap[r]? = some o' := by
  simp [setObjW, Array.getElem?_setIfInBounds, (Array.getElem?_eq_some_iff.1 h).1]
variable {w0 w w' : World} {A : HP} {L : List HP} {bm : Nat} {F : κ → Option Value}
theorem Heap.mpLook (hk : KeyLaw P mT kT eT enc V) (h : Heap w0 w (HP.mp enc V bm F :: L)) {k : κ} (hv : V k) {z : Value} (hz : (zeroValue eT).run P w = .ok z w) :
    (Instr.lookup mT (.map (some bm)) (enc k) true).run P w = .ok (.tuple #[(F k).getD z, .bool (F k).isSome]) w := by
  obtain ⟨c, ⟨M, clock, hh, hg, hF⟩, _⟩ := h.get
  rw [← hF k]
  exact run_lookupK hk hv hg hh hz
theorem Heap.mpStore (hk : KeyLaw P mT kT eT enc V) (h : Heap w0 w (HP.mp enc V bm F :: L)) {k : κ} (hv : V k) (v : Value) :
    ∃ w', (Instr.mapUpdate mT (.map (some bm)) (enc k) v).run P w = .ok () w' ∧ Heap w0 w' (HP.mp enc V bm (fun k' => if k' = k then some v else F k') :: L) ∧ w'.heap.size = w.heap.size := by
  obtain ⟨c, ⟨⟨M, clock, hh, hg, hF⟩, rfl⟩, st⟩ := h.pin
  obtain ⟨M', clock', hr, hg', hl⟩ := run_updateK hk hv hg hh v
  refine ⟨_, hr, st ⟨⟨M', clock', heap_setObjW hh, hg', fun k' => by rw [hl, hF]⟩, rfl⟩ (.of_grown (grown_setObjW w bm _) (fun x hx => by injection hx with hx; exact hx.symm) (fun _ h => .inl h) (fun _ h => .inl h)), by simp [setObjW]⟩
theorem Heap.mpDel (hk : KeyLaw P mT kT eT enc V) (h : Heap w0 w (HP.mp enc V bm F :: L)) {k : κ} (hv : V k) (ts : Array TypeId) (ht : ts[0]? = some mT) (ty : TypeId) :
    ∃ w', (Builtin.delete_ ts ty #[.map (some bm), enc k]).run P w = .ok (.tuple #[]) w' ∧ Heap w0 w' (HP.mp enc V bm (fun k' => if k' = k then none else F k') :: L) ∧ w'.heap.size = w.heap.size := by
  obtain ⟨c, ⟨⟨M, clock, hh, hg, hF⟩, rfl⟩, st⟩ := h.pin
  obtain ⟨M', hr, hg', hl⟩ := run_deleteK hk hv hg hh ts ht ty
  refine ⟨_, hr, st ⟨⟨M', clock, heap_setObjW hh, hg', fun k' => by rw [hl, hF]⟩, rfl⟩ (.of_grown (grown_setObjW w bm _) (fun x hx => by injection hx with hx; exact hx.symm) (fun _ h => .inl h) (fun _ h => .inl h)), by simp [setObjW]⟩
theorem Heap.mpNew (h : Heap w0 w L) (enc : κ → Value) (V : κ → Prop) : Heap w0 (w.alloc (.map #[] 0)) (HP.mp enc V w.heap.size (fun _ => none) :: L) :=
  (Heap.emp.2 h).step fun c hc => ⟨_, ⟨⟨[], 0, heap_new' w _, ⟨by simp, by simp, by simp, by simp⟩, fun k => rfl⟩, rfl⟩, .of_grown (row := none) ⟨rfl, rfl, rfl, by simp, fun k hk _ => Below.heap_alloc w _ k hk⟩ (by simp) (fun x hx => .inr (by cases hx; exact Nat.le_refl _)) (fun x hx => .inr (by rcases hx with hx | hx; cases hx; exact Nat.le_refl _; exact hx.elim))⟩
end
end Go.Proofs.Ytlkkmpfhhfaioaa
