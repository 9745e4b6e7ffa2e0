/- The map of the registers' places: its keys, and what a look-up in it tells. -/
import Derived.Test.YtiglekmfighgnaaRegion
import Derived.Test.YtiglekmfighgnaaRows
namespace Go.Proofs.Ytiglekmfighgnaa
open Go.RowKit
def K (a s : Int) : Value := .agg #[.int .u64 a, .int .i64 s]
theorem check53 (em : Bool) (a s : Int) (w : World) : (Instr.checkKey em 10000 53 (K a s)).run Try.prog w = .ok () w := by kernel_rfl
theorem fol : Try.prog.follows .mixedOrders = true := by kernel_rfl
theorem und53 : Try.prog.underlying 53 = some (.struct (Try.prog.fieldsOf 53)) := by kernel_rfl
theorem fields53 : ∃ f g, (Try.prog.fieldsOf 53).toList = [f, g] ∧ f.name = "at" ∧ f.type = 28 ∧ f.offset = 0 ∧ g.name = "size" ∧ g.type = 3 ∧ g.offset = 1 :=
  ⟨_, _, rfl, by kernel_rfl, by kernel_rfl, by kernel_rfl, by kernel_rfl, by kernel_rfl, by kernel_rfl⟩
theorem eq53 (a s a' s' : Int) (w : World) : (Op.equal 53 (K a s) (K a' s')).run Try.prog w = .ok (a == a' && s == s') w := by
  have e1 : (Op.equalIn 9999 28 (.int .u64 a) (.int .u64 a')).run Try.prog w = .ok (a == a') w := by kernel_rfl
  have e2 : (Op.equalIn 9999 3 (.int .i64 s) (.int .i64 s')).run Try.prog w = .ok (s == s') w := by kernel_rfl
  obtain ⟨f, g, h0, h1, h2, h3, h4, h5, h6⟩ := fields53
  unfold Op.equal Op.maxDepth
  rw [show (10000 : Nat) = 9999 + 1 from rfl]
  unfold K
  rw [run_equalIn_struct w 9999 53 _ _ und53 (by kernel_rfl)]
  have p1 : ∀ x y : Value, (part 28 #[x, y] 0).run Try.prog w = .ok x w := by intro x y; kernel_rfl
  have p2 : ∀ x y : Value, (part 3 #[x, y] 1).run Try.prog w = .ok y w := by intro x y; kernel_rfl
  rw [h0]
  generalize (a == a') = x at *
  generalize (s == s') = y at *
  cases x <;> cases y <;> simp [Op.eqFields, h1, h2, h3, h4, h5, h6, p1, p2, e1, e2]

def Keyd (es : List MapEntry) : Prop := ∀ e ∈ es, ∃ a s, e.key = K a s

theorem K_inj {a s a' s' : Int} (h : K a s = K a' s') : a = a' ∧ s = s' := by
  unfold K at h; simp at h; exact h

theorem asking (a s : Int) (w : World) : ∀ (es : List MapEntry) (n : Nat), Keyd es →
    ((Instr.findAsking 53 (K a s) es n).run Try.prog w = .ok none w ∧ ∀ e ∈ es, e.key ≠ K a s) ∨
    ∃ i e, (Instr.findAsking 53 (K a s) es n).run Try.prog w = .ok (some (i, e.val)) w ∧ e ∈ es ∧ e.key = K a s
  | [], n, _ => .inl ⟨by simp [Instr.findAsking], by simp⟩
  | e :: es, n, h => by
    obtain ⟨a', s', hk⟩ := h e (by simp)
    have hr := eq53 a s a' s' w
    by_cases hs : a = a' ∧ s = s'
    · obtain ⟨rfl, rfl⟩ := hs
      refine .inr ⟨n, e, ?_, by simp, hk⟩
      simp only [beq_self_eq_true, Bool.and_self] at hr
      simp [Instr.findAsking, hk, hr]
    · have hf : (a == a' && s == s') = false := by
        cases hx : (a == a' && s == s') with
        | false => rfl
        | true => simp at hx; exact absurd hx hs
      rw [hf] at hr
      rcases asking a s w es (n + 1) (fun x hx => h x (by simp [hx])) with ⟨h1, h2⟩ | ⟨i, x, h1, h2, h3⟩
      · refine .inl ⟨by simp [Instr.findAsking, hk, hr, h1], fun x hx => ?_⟩
        rcases List.mem_cons.1 hx with rfl | hx
        · rw [hk]; intro he; have := K_inj he; exact hs ⟨this.1.symm, this.2.symm⟩
        · exact h2 x hx
      · exact .inr ⟨i, x, by simp [Instr.findAsking, hk, hr, h1], by simp [h2], h3⟩

theorem finding (a s : Int) (w : World) (es : List MapEntry) (h : Keyd es) :
    ((Instr.findKey 53 (K a s) es).run Try.prog w = .ok none w ∧ ∀ e ∈ es, e.key ≠ K a s) ∨
    ∃ i e, (Instr.findKey 53 (K a s) es).run Try.prog w = .ok (some (i, e.val)) w ∧ e ∈ es ∧ e.key = K a s := by
  cases es with
  | nil => exact .inl ⟨by kernel_rfl, by simp⟩
  | cons e es =>
    have h1 : (Instr.findKey 53 (K a s) (e :: es)).run Try.prog w = (Instr.findAsking 53 (K a s) (e :: es)).run Try.prog w := by kernel_rfl
    rw [h1]
    exact asking a s w _ 0 h

/-- Where an access goes: the register, by how many bits up, how many. -/
def look (a s : Int) : Option (Nat × Int × Int) :=
  if a = 0 ∧ s = 4 then some (0, 0, 1)
  else if a = 16384 ∧ s = 8 then some (2, 0, 64)
  else if a = 16384 ∧ s = 4 then some (2, 0, 32)
  else if a = 16388 ∧ s = 4 then some (2, 32, 32)
  else if a = 49144 ∧ s = 8 then some (1, 0, 64)
  else if a = 49144 ∧ s = 4 then some (1, 0, 32)
  else if a = 49148 ∧ s = 4 then some (1, 32, 32)
  else none
def partV (b : Nat) (p : Nat × Int × Int) : Value := .agg #[.pointer (some ⟨b, p.1, none⟩), .int .i64 p.2.1, .int .i64 p.2.2]
/-- Block M is the map of the places of the Clint at block b. -/
def Tab (w : World) (M b : Nat) : Prop := ∃ es clock, w.heap[M]? = some (.map es clock) ∧
  (∀ e ∈ es.toList, ∃ a s p, e.key = K a s ∧ look a s = some p ∧ e.val = partV b p) ∧ ∀ a s p, look a s = some p → ∃ e ∈ es.toList, e.key = K a s

theorem und50 : Try.prog.underlying 50 = some (.map 53 48) := by kernel_rfl
theorem zero48 (w : World) : (zeroValue 48).run Try.prog w = .ok (.agg #[.pointer none, .int .i64 0, .int .i64 0]) w := by kernel_rfl
theorem run_getObj_map {w : World} {M : Nat} {es : Array MapEntry} {clock : Nat} (h : w.heap[M]? = some (.map es clock)) (P : Program) : (getObj M).run P w = .ok (.map es clock) w := by
  simp [getObj, Sem.run, h]

theorem tab_some {w : World} {M b : Nat} (h : Tab w M b) {a s : Int} {p : Nat × Int × Int} (hl : look a s = some p) :
    (Instr.lookup 50 (.map (some M)) (K a s) true).run Try.prog w = .ok (.tuple #[partV b p, .bool true]) w := by
  obtain ⟨es, clock, hM, h1, h2⟩ := h
  have hg := run_getObj_map hM Try.prog
  rcases finding a s w es.toList (fun e he => by obtain ⟨a, s, p, hk, _⟩ := h1 e he; exact ⟨a, s, hk⟩) with ⟨_, h4⟩ | ⟨i, e, h3, h4, h5⟩
  · obtain ⟨e, he, hk⟩ := h2 a s p hl
    exact absurd hk (h4 e he)
  · obtain ⟨a', s', p', hk, hl', hv⟩ := h1 e h4
    obtain ⟨rfl, rfl⟩ := K_inj (hk.symm.trans h5)
    have hp : p' = p := Option.some.inj (hl'.symm.trans hl)
    subst hp
    simp [Instr.lookup, run_underlying und50, hg, check53, h3, hv]

theorem tab_none {w : World} {M b : Nat} (h : Tab w M b) {a s : Int} (hl : look a s = none) :
    (Instr.lookup 50 (.map (some M)) (K a s) true).run Try.prog w = .ok (.tuple #[.agg #[.pointer none, .int .i64 0, .int .i64 0], .bool false]) w := by
  obtain ⟨es, clock, hM, h1, h2⟩ := h
  have hg := run_getObj_map hM Try.prog
  rcases finding a s w es.toList (fun e he => by obtain ⟨a, s, p, hk, _⟩ := h1 e he; exact ⟨a, s, hk⟩) with ⟨h3, _⟩ | ⟨i, e, h3, h4, h5⟩
  · simp [Instr.lookup, run_underlying und50, hg, check53, h3]
  · obtain ⟨a', s', p', hk, hl', hv⟩ := h1 e h4
    obtain ⟨rfl, rfl⟩ := K_inj (hk.symm.trans h5)
    rw [hl] at hl'; cases hl'

def World.putObj (w : World) (M : Nat) (o : Obj) : World := { w with heap := w.heap.setIfInBounds M o }

theorem insert_new {w : World} {M : Nat} {es : Array MapEntry} {clock : Nat} (hM : w.heap[M]? = some (.map es clock)) (hk : Keyd es.toList) {a s : Int} (v : Value) (hn : ∀ e ∈ es.toList, e.key ≠ K a s) :
    (Instr.mapUpdate 50 (.map (some M)) (K a s) v).run Try.prog w = .ok () (World.putObj w M (.map (es.push ⟨K a s, v, clock⟩) (clock + 1))) := by
  have hg := run_getObj_map hM Try.prog
  have hs : (setObj M (.map (es.push ⟨K a s, v, clock⟩) (clock + 1))).run Try.prog w = .ok () (World.putObj w M (.map (es.push ⟨K a s, v, clock⟩) (clock + 1))) := by
    simp [setObj, Sem.run, hM, World.putObj]
  rcases finding a s w es.toList hk with ⟨h3, _⟩ | ⟨i, e, h3, h4, h5⟩
  · simp [Instr.mapUpdate, run_underlying und50, hg, check53, h3, hs]
  · exact absurd h5 (hn e h4)
end Go.Proofs.Ytiglekmfighgnaa
