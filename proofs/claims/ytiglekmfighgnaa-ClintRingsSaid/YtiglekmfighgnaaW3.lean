/- The map of the registers' places is made: whatever order its entries are laid in. -/
import Derived.Test.YtiglekmfighgnaaW2
namespace Go.Proofs.Ytiglekmfighgnaa
open Go.RowKit

theorem hide {p : Prop} (h : p) : Hid p := h
theorem unhide {p : Prop} (h : Hid p) : p := h

def tabN : Nat → Option (Int × Int × (Nat × Int × Int))
  | 0 => some (0, 4, (0, 0, 1))
  | 1 => some (16384, 8, (2, 0, 64))
  | 2 => some (16384, 4, (2, 0, 32))
  | 3 => some (16388, 4, (2, 32, 32))
  | 4 => some (49144, 8, (1, 0, 64))
  | 5 => some (49144, 4, (1, 0, 32))
  | 6 => some (49148, 4, (1, 32, 32))
  | _ => none
theorem tabN_lt {n : Nat} {x} (h : tabN n = some x) : n < 7 := by
  unfold tabN at h
  split at h <;> first | omega | (cases h; done)
theorem tabN_look {n : Nat} {a s : Int} {p : Nat × Int × Int} (h : tabN n = some (a, s, p)) : look a s = some p := by
  unfold tabN at h
  split at h <;> first | (cases h; done) | (injection h with h; injection h with h1 h2; injection h2 with h2 h3; subst h1; subst h2; subst h3; decide)
theorem look_tabN {a s : Int} {p : Nat × Int × Int} (h : look a s = some p) : ∃ n, tabN n = some (a, s, p) := by
  unfold look at h
  repeat' split at h
  all_goals first | (cases h; done) | (rename_i hc; obtain ⟨rfl, rfl⟩ := hc; injection h with h; subst h)
  all_goals first | exact ⟨0, rfl⟩ | exact ⟨1, rfl⟩ | exact ⟨2, rfl⟩ | exact ⟨3, rfl⟩ | exact ⟨4, rfl⟩ | exact ⟨5, rfl⟩ | exact ⟨6, rfl⟩
theorem tabN_inj {n m : Nat} {a s : Int} {p q : Nat × Int × Int} (h : tabN n = some (a, s, p)) (h' : tabN m = some (a, s, q)) : n = m := by
  have hn := tabN_lt h
  have hm := tabN_lt h'
  have key : ∀ n, n < 7 → ∀ m, m < 7 → ((tabN n).map (fun x => (x.1, x.2.1)) = (tabN m).map (fun x => (x.1, x.2.1))) → n = m := by decide
  exact key n hn m hm (by rw [h, h']; rfl)

def Same (w0 w : World) : Prop := w.os = w0.os ∧ w.tape = w0.tape ∧ w.output = w0.output
def J (b : Nat) (w0 : World) (listed : Array Bool) (w : World) : Prop :=
  Same w0 w ∧ if listed.getD 0 false = true then
    ∃ es clock, w.heap = w0.heap.push (.map es clock) ∧
      (∀ e ∈ es.toList, ∃ n a s p, tabN n = some (a, s, p) ∧ listed.getD (6 * n + 6) false = true ∧ e.key = K a s ∧ e.val = partV b p) ∧
      ∀ n a s p, tabN n = some (a, s, p) → listed.getD (6 * n + 6) false = true → ∃ e ∈ es.toList, e.key = K a s
  else w.heap = w0.heap ∧ ∀ n x, tabN n = some x → listed.getD (6 * n + 6) false = false

theorem J_keep {b : Nat} {w0 w : World} {listed : Array Bool} {i : Nat} (hi : i % 6 ≠ 0) (h : J b w0 listed w) : J b w0 (listed.setIfInBounds i true) w := by
  have e : ∀ j, j % 6 = 0 → (listed.setIfInBounds i true).getD j false = listed.getD j false := fun j hj => getD_set_ne false (by omega)
  have e' : ∀ n, (listed.setIfInBounds i true).getD (6 * n + 6) false = listed.getD (6 * n + 6) false := fun n => e _ (by omega)
  unfold J at *
  rw [e 0 (by omega)]
  simp only [e']
  exact h

theorem set_push (h : Array Obj) (x y : Obj) : (h.push x).setIfInBounds h.size y = h.push y := by
  apply Array.ext'
  simp

theorem jquiet {b : Nat} {w0 : World} {ops : Array Oper} {i : Nat} {o : Oper} {a : Act} {v : Value} (hi : i % 6 ≠ 0) (hg : o.guard = none)
    (h : ∀ w, (execOp a.eval o).run Try.prog w = .ok (.value v) w) : JStep Try.prog ops (J b w0) i o a v := by
  constructor
  intro listed w hJ _
  rw [if_pos (by simp [Region.wanted, hg]), h w]
  exact ⟨rfl, J_keep hi hJ⟩

theorem getD_set_self' {listed : Array Bool} {i : Nat} (h : listed.getD i true = false) : (listed.setIfInBounds i true).getD i false = true := by
  rcases Nat.lt_or_ge i listed.size with h' | h'
  · simp [h']
  · simp [Array.getElem?_eq_none h'] at h

theorem jmake {b : Nat} {w0 : World} {ops : Array Oper} {o : Oper} {a : Act} (hg : o.guard = none)
    (h : ∀ w, (execOp a.eval o).run Try.prog w = .ok (.value (.map (some w.heap.size))) (w.alloc (.map #[] 0))) : JStep Try.prog ops (J b w0) 0 o a (.map (some w0.heap.size)) := by
  constructor
  intro listed w hJ hr
  rw [if_pos (by simp [Region.wanted, hg]), h w]
  obtain ⟨hun, _⟩ := mem_ready.1 hr
  have hl0 := getD_both' hun
  obtain ⟨hs, hJ⟩ := hJ
  rw [if_neg (by simp [hl0])] at hJ
  obtain ⟨hh, hn⟩ := hJ
  refine ⟨by rw [hh], hs, ?_⟩
  rw [if_pos (getD_set_self' hun)]
  refine ⟨#[], 0, by simp [World.alloc, hh], by simp, fun n a s p ht hl => ?_⟩
  rw [getD_set_ne false (by omega), hn n _ ht] at hl
  cases hl

theorem jinsert {b : Nat} {w0 : World} {ops : Array Oper} {o : Oper} {a : Act} {i : Nat} (n : Nat) (at_ s : Int) (p : Nat × Int × Int) (hi : i = 6 * n + 6) (ht : tabN n = some (at_, s, p)) (hg : o.guard = none)
    (ho : ops[6 * n + 6]? = some o) (hw : waitsOn o 0 = true)
    (h : execOp a.eval o = (do Instr.mapUpdate 50 (.map (some w0.heap.size)) (K at_ s) (partV b p); pure .skip)) : JStep Try.prog ops (J b w0) i o a undef := by
  subst hi
  constructor
  intro listed w hJ hr
  obtain ⟨hun, o', ho', hall⟩ := mem_ready.1 hr
  have : o' = o := Option.some.inj (ho'.symm.trans ho)
  subst this
  obtain ⟨e, he, hb, hon⟩ := waitsOn_spec hw
  have hl0 := hall e he hb
  rw [hon] at hl0
  have hln := getD_both' hun
  obtain ⟨hs, hJ⟩ := hJ
  rw [if_pos hl0] at hJ
  obtain ⟨es, clock, hh, h1, h2⟩ := hJ
  have hM : w.heap[w0.heap.size]? = some (.map es clock) := by rw [hh]; simp
  have hk : Keyd es.toList := fun e he => by obtain ⟨_, a, s, _, _, _, hk, _⟩ := h1 e he; exact ⟨a, s, hk⟩
  have hn : ∀ e ∈ es.toList, e.key ≠ K at_ s := by
    intro e he hke
    obtain ⟨m, a', s', q, hm, hlm, hk', _⟩ := h1 e he
    obtain ⟨rfl, rfl⟩ := K_inj (hk'.symm.trans hke)
    have := tabN_inj ht hm
    subst this
    rw [hln] at hlm
    cases hlm
  have hrun := insert_new hM hk (partV b p) hn
  rw [if_pos (by simp [Region.wanted, hg]), h]
  simp only [Sem.run_bind, hrun, Result.andThen_ok, Sem.run_pure]
  refine ⟨rfl, hs, ?_⟩
  rw [if_pos (by rw [getD_set_ne false (by omega)]; exact hl0)]
  refine ⟨es.push ⟨K at_ s, partV b p, clock⟩, clock + 1, by simp only [World.putObj, hh, set_push], ?_, ?_⟩
  · intro e he
    simp only [Array.toList_push, List.mem_append, List.mem_singleton] at he
    rcases he with he | rfl
    · obtain ⟨m, a', s', q, hm, hlm, hr⟩ := h1 e he
      exact ⟨m, a', s', q, hm, getD_set_true hlm, hr⟩
    · exact ⟨n, at_, s, p, ht, getD_set_self' hun, rfl, rfl⟩
  · intro m a' s' q hm hlm
    by_cases hmn : m = n
    · subst hmn
      have := hm.symm.trans ht
      simp only [Option.some.injEq, Prod.mk.injEq] at this
      obtain ⟨rfl, rfl, _⟩ := this
      exact ⟨⟨K a' s', partV b p, clock⟩, by simp, rfl⟩
    · rw [getD_set_ne false (by omega)] at hlm
      obtain ⟨e, he, hke⟩ := h2 m a' s' q hm hlm
      exact ⟨e, by simp [he], hke⟩

theorem tab_of_J {b : Nat} {w0 w : World} (h : J b w0 (Array.replicate 45 true) w) : Tab w w0.heap.size b ∧ w0.grownBy w none := by
  obtain ⟨⟨h1, h2, h3⟩, hJ⟩ := h
  rw [if_pos (by decide)] at hJ
  obtain ⟨es, clock, hh, ha, hb⟩ := hJ
  refine ⟨⟨es, clock, by rw [hh]; simp, fun e he => ?_, fun a s p hl => ?_⟩, h1, h2, h3, by rw [hh]; simp, fun k hk _ => ?_⟩
  · obtain ⟨n, a, s, p, ht, _, hk, hv⟩ := ha e he
    exact ⟨a, s, p, hk, tabN_look ht, hv⟩
  · obtain ⟨n, ht⟩ := look_tabN hl
    have hn := tabN_lt ht
    have : ∀ n, n < 7 → (Array.replicate 45 true).getD (6 * n + 6) false = true := by decide
    exact hb n a s p ht (this n hn)
  · rw [hh, Array.getElem?_push, if_neg (by omega)]

set_option maxHeartbeats 400000 in
theorem parts_any (b : Nat) (w : World) :
    Calls Try.prog 23 #[.pointer (some ⟨b, 0, none⟩)] w fun e w' => e = .returned (.map (some w.heap.size)) ∧ Tab w' w.heap.size b ∧ w.grownBy w' none := by
  go_enter Try.func23, Try.ntmps23
  go_wp2_with fail
  refine wp_region_J (J b w) (Q' := fun a => a.tmps.getD 2 undef = .map (some w.heap.size) ∧ a.defers = []) fol (by kernel_rfl) ⟨⟨rfl, rfl, rfl⟩, ?_⟩ ?_ ?_
  · rw [if_neg (by decide)]
    refine ⟨rfl, fun n x hx => ?_⟩
    exact getD_replicate_false' _ _
  · show wpJ _ _ _ _ 0 (_ :: _) _
    refine wpJ_cons _ (jmake rfl (fun w => ?_)) ?_
    · kernel_rfl
    refine wpJ_cons (K 0 4) ?_ ?_
    · refine jquiet ?_ ?_ ?_
      · decide
      · rfl
      · intro w; kernel_rfl
    refine wpJ_cons (.pointer (some ⟨b, 0, none⟩)) ?_ ?_
    · refine jquiet ?_ ?_ ?_
      · decide
      · rfl
      · intro w; kernel_rfl
    refine wpJ_cons (.pointer (some ⟨b, 0, none⟩)) ?_ ?_
    · refine jquiet ?_ ?_ ?_
      · decide
      · rfl
      · intro w; kernel_rfl
    refine wpJ_cons (.pointer (some ⟨b, 0, none⟩)) ?_ ?_
    · refine jquiet ?_ ?_ ?_
      · decide
      · rfl
      · intro w; kernel_rfl
    refine wpJ_cons (partV b (0, 0, 1)) ?_ ?_
    · refine jquiet ?_ ?_ ?_
      · decide
      · rfl
      · intro w; kernel_rfl
    refine wpJ_cons undef ?_ ?_
    · refine jinsert 0 0 4 (0, 0, 1) ?_ ?_ ?_ ?_ ?_ ?_
      all_goals kernel_rfl
    refine wpJ_cons (K 16384 8) ?_ ?_
    · refine jquiet ?_ ?_ ?_
      · decide
      · rfl
      · intro w; kernel_rfl
    refine wpJ_cons (.pointer (some ⟨b, 0, none⟩)) ?_ ?_
    · refine jquiet ?_ ?_ ?_
      · decide
      · rfl
      · intro w; kernel_rfl
    refine wpJ_cons (.pointer (some ⟨b, 0, none⟩)) ?_ ?_
    · refine jquiet ?_ ?_ ?_
      · decide
      · rfl
      · intro w; kernel_rfl
    refine wpJ_cons (.pointer (some ⟨b, 2, none⟩)) ?_ ?_
    · refine jquiet ?_ ?_ ?_
      · decide
      · rfl
      · intro w; kernel_rfl
    refine wpJ_cons (partV b (2, 0, 64)) ?_ ?_
    · refine jquiet ?_ ?_ ?_
      · decide
      · rfl
      · intro w; kernel_rfl
    refine wpJ_cons undef ?_ ?_
    · refine jinsert 1 16384 8 (2, 0, 64) ?_ ?_ ?_ ?_ ?_ ?_
      all_goals kernel_rfl
    refine wpJ_cons (K 16384 4) ?_ ?_
    · refine jquiet ?_ ?_ ?_
      · decide
      · rfl
      · intro w; kernel_rfl
    refine wpJ_cons (.pointer (some ⟨b, 0, none⟩)) ?_ ?_
    · refine jquiet ?_ ?_ ?_
      · decide
      · rfl
      · intro w; kernel_rfl
    refine wpJ_cons (.pointer (some ⟨b, 0, none⟩)) ?_ ?_
    · refine jquiet ?_ ?_ ?_
      · decide
      · rfl
      · intro w; kernel_rfl
    refine wpJ_cons (.pointer (some ⟨b, 2, none⟩)) ?_ ?_
    · refine jquiet ?_ ?_ ?_
      · decide
      · rfl
      · intro w; kernel_rfl
    refine wpJ_cons (partV b (2, 0, 32)) ?_ ?_
    · refine jquiet ?_ ?_ ?_
      · decide
      · rfl
      · intro w; kernel_rfl
    refine wpJ_cons undef ?_ ?_
    · refine jinsert 2 16384 4 (2, 0, 32) ?_ ?_ ?_ ?_ ?_ ?_
      all_goals kernel_rfl
    refine wpJ_cons (K 16388 4) ?_ ?_
    · refine jquiet ?_ ?_ ?_
      · decide
      · rfl
      · intro w; kernel_rfl
    refine wpJ_cons (.pointer (some ⟨b, 0, none⟩)) ?_ ?_
    · refine jquiet ?_ ?_ ?_
      · decide
      · rfl
      · intro w; kernel_rfl
    refine wpJ_cons (.pointer (some ⟨b, 0, none⟩)) ?_ ?_
    · refine jquiet ?_ ?_ ?_
      · decide
      · rfl
      · intro w; kernel_rfl
    refine wpJ_cons (.pointer (some ⟨b, 2, none⟩)) ?_ ?_
    · refine jquiet ?_ ?_ ?_
      · decide
      · rfl
      · intro w; kernel_rfl
    refine wpJ_cons (partV b (2, 32, 32)) ?_ ?_
    · refine jquiet ?_ ?_ ?_
      · decide
      · rfl
      · intro w; kernel_rfl
    refine wpJ_cons undef ?_ ?_
    · refine jinsert 3 16388 4 (2, 32, 32) ?_ ?_ ?_ ?_ ?_ ?_
      all_goals kernel_rfl
    refine wpJ_cons (K 49144 8) ?_ ?_
    · refine jquiet ?_ ?_ ?_
      · decide
      · rfl
      · intro w; kernel_rfl
    refine wpJ_cons (.pointer (some ⟨b, 0, none⟩)) ?_ ?_
    · refine jquiet ?_ ?_ ?_
      · decide
      · rfl
      · intro w; kernel_rfl
    refine wpJ_cons (.pointer (some ⟨b, 0, none⟩)) ?_ ?_
    · refine jquiet ?_ ?_ ?_
      · decide
      · rfl
      · intro w; kernel_rfl
    refine wpJ_cons (.pointer (some ⟨b, 1, none⟩)) ?_ ?_
    · refine jquiet ?_ ?_ ?_
      · decide
      · rfl
      · intro w; kernel_rfl
    refine wpJ_cons (partV b (1, 0, 64)) ?_ ?_
    · refine jquiet ?_ ?_ ?_
      · decide
      · rfl
      · intro w; kernel_rfl
    refine wpJ_cons undef ?_ ?_
    · refine jinsert 4 49144 8 (1, 0, 64) ?_ ?_ ?_ ?_ ?_ ?_
      all_goals kernel_rfl
    refine wpJ_cons (K 49144 4) ?_ ?_
    · refine jquiet ?_ ?_ ?_
      · decide
      · rfl
      · intro w; kernel_rfl
    refine wpJ_cons (.pointer (some ⟨b, 0, none⟩)) ?_ ?_
    · refine jquiet ?_ ?_ ?_
      · decide
      · rfl
      · intro w; kernel_rfl
    refine wpJ_cons (.pointer (some ⟨b, 0, none⟩)) ?_ ?_
    · refine jquiet ?_ ?_ ?_
      · decide
      · rfl
      · intro w; kernel_rfl
    refine wpJ_cons (.pointer (some ⟨b, 1, none⟩)) ?_ ?_
    · refine jquiet ?_ ?_ ?_
      · decide
      · rfl
      · intro w; kernel_rfl
    refine wpJ_cons (partV b (1, 0, 32)) ?_ ?_
    · refine jquiet ?_ ?_ ?_
      · decide
      · rfl
      · intro w; kernel_rfl
    refine wpJ_cons undef ?_ ?_
    · refine jinsert 5 49144 4 (1, 0, 32) ?_ ?_ ?_ ?_ ?_ ?_
      all_goals kernel_rfl
    refine wpJ_cons (K 49148 4) ?_ ?_
    · refine jquiet ?_ ?_ ?_
      · decide
      · rfl
      · intro w; kernel_rfl
    refine wpJ_cons (.pointer (some ⟨b, 0, none⟩)) ?_ ?_
    · refine jquiet ?_ ?_ ?_
      · decide
      · rfl
      · intro w; kernel_rfl
    refine wpJ_cons (.pointer (some ⟨b, 0, none⟩)) ?_ ?_
    · refine jquiet ?_ ?_ ?_
      · decide
      · rfl
      · intro w; kernel_rfl
    refine wpJ_cons (.pointer (some ⟨b, 1, none⟩)) ?_ ?_
    · refine jquiet ?_ ?_ ?_
      · decide
      · rfl
      · intro w; kernel_rfl
    refine wpJ_cons (partV b (1, 32, 32)) ?_ ?_
    · refine jquiet ?_ ?_ ?_
      · decide
      · rfl
      · intro w; kernel_rfl
    refine wpJ_cons undef ?_ ?_
    · refine jinsert 6 49148 4 (1, 32, 32) ?_ ?_ ?_ ?_ ?_ ?_
      all_goals kernel_rfl
    refine wpJ_cons (.map (some w.heap.size)) ?_ ?_
    · refine jquiet ?_ ?_ ?_
      · decide
      · rfl
      · intro w; kernel_rfl
    refine wpJ_cons (.map (some w.heap.size)) ?_ ?_
    · refine jquiet ?_ ?_ ?_
      · decide
      · rfl
      · intro w; kernel_rfl
    exact wpJ_nil ⟨by kernel_rfl, by kernel_rfl⟩
  · rintro ⟨tm, df⟩ w' ⟨h1, h2⟩ hJ
    obtain ⟨hT, hG⟩ := tab_of_J hJ
    replace h1 : tm.getD 2 undef = _ := h1
    replace h2 : df = [] := h2
    subst h2
    have H1 := hide h1
    clear h1
    go_wp2_with fail
    exact bodyPost_ret (results_tmp rfl _ _ _) rfl ⟨by rw [unhide H1], hT, hG⟩
end Go.Proofs.Ytiglekmfighgnaa
