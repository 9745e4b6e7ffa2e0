/- Layer 15: what is found was put: the walk. -/
import Derived.Test.YtlkkmpfhhfaioaaT22
namespace Go.Proofs.Ytlkkmpfhhfaioaa
open Go.RowKit

/-- All that is kept is in the list. -/
structure KI (S : Slots) (P : List E) : Prop where
  sub : ∀ m e, m < 8 → S m = some e → e ∈ P
  ok : ∀ e ∈ P, e.ok
theorem KI.put {S : Slots} {P : List E} (h : KI S P) (hI : Inv S) {e : E} (hw : e.wf) (hb : bad e = false) (sd : Int) : KI (putS S sd e) (P.filter (fun y => !eqk y e) ++ [e]) := by
  refine ⟨fun m f hm hf => ?_, fun f hf => ?_⟩
  · unfold putS at hf
    rw [hb] at hf
    simp only [Bool.false_eq_true, if_false, Go.Proofs.Ytlkkmpfhhfaioaa.put] at hf
    split at hf
    · injection hf with hf; simp [hf]
    · rename_i hne
      refine List.mem_append.2 (.inl (List.mem_filter.2 ⟨h.sub m f hm hf, ?_⟩))
      cases hk : eqk f e with
      | false => rfl
      | true =>
        have := place_of hI hm hf
        rw [(eqk_key f e).1 hk] at this
        rw [this] at hne
        exact absurd rfl hne
  · rcases List.mem_append.1 hf with hf | hf
    · exact h.ok f (List.mem_filter.1 hf).1
    · rw [List.mem_singleton.1 hf]; exact (ok_of e hw hb).1
theorem KI.fence {S : Slots} {P : List E} (h : KI S P) (p : Fn) : KI (fenK S p 8) (P.filter (fun y => !goes p y)) := by
  refine ⟨fun m f hm hf => ?_, fun f hf => h.ok f (List.mem_filter.1 hf).1⟩
  unfold fenK at hf
  rw [if_pos hm] at hf
  cases hs : S m with
  | none => rw [hs] at hf; cases hf
  | some g =>
    rw [hs] at hf
    unfold fen1 at hf
    simp only at hf
    split at hf
    · cases hf
    · rename_i hg
      injection hf with hf
      subst hf
      exact List.mem_filter.2 ⟨h.sub m g hm hs, by simpa using hg⟩
theorem find_spec {S : Slots} {sp a : Int} {f : E} (h : findS S sp a = some f) : ∃ m, m < 8 ∧ S m = some f ∧ hasB f a = true ∧ (f.gl = true ∨ f.sp = sp) := by
  unfold findS at h
  obtain ⟨m, hm, hh⟩ := List.exists_of_findSome?_eq_some h
  unfold hit at hh
  cases hs : S m with
  | none => rw [hs] at hh; cases hh
  | some g =>
    rw [hs] at hh
    simp only at hh
    split at hh
    · rename_i hc
      injection hh with hh
      subst hh
      simp only [Bool.and_eq_true, Bool.or_eq_true, decide_eq_true_eq] at hc
      exact ⟨m, List.mem_range.1 hm, hs, hc.1, hc.2⟩
    · cases hh
theorem find_put (S : Slots) (sd : Int) (e : E) (hb : bad e = false) : ∃ f, findS (putS S sd e) e.sp e.at_ = some f := by
  cases hf : findS (putS S sd e) e.sp e.at_ with
  | some f => exact ⟨f, rfl⟩
  | none =>
    have hn : (place S e.key).getD (slot S sd) < 8 := by
      cases hp : place S e.key with
      | none => exact slot_lt S sd
      | some n => exact (place_some hp).1
    have h1 := List.findSome?_eq_none_iff.1 hf _ (List.mem_range.2 hn)
    unfold hit putS at h1
    rw [hb] at h1
    simp [put, hasB] at h1
theorem len_sub : ∀ (l P : List E), l.Nodup → (∀ e ∈ l, e ∈ P) → l.length ≤ P.length := by
  intro l
  induction l with
  | nil => intro P _ _; simp
  | cons a l ih =>
    intro P hn hs
    obtain ⟨h1, h2⟩ := List.nodup_cons.1 hn
    have ha := hs a (by simp)
    have := ih (P.erase a) h2 fun e he => (List.mem_erase_of_ne (by rintro rfl; exact h1 he)).2 (hs e (by simp [he]))
    rw [List.length_erase_of_mem ha] at this
    have := List.length_pos_of_mem ha
    simp only [List.length_cons]
    omega
theorem kept_nodup {S : Slots} (hI : Inv S) : ∀ k, k ≤ 8 → (kept S k).Nodup := by
  intro k
  induction k with
  | zero => intro _; simp [kept]
  | succ k ih =>
    intro hk
    cases hs : S k with
    | none => rw [kept_none hs]; exact ih (by omega)
    | some e =>
      rw [kept_some hs, List.nodup_append]
      refine ⟨ih (by omega), by simp, fun a ha b hb => ?_⟩
      rw [List.mem_singleton.1 hb]
      rintro rfl
      obtain ⟨n, hn, he⟩ := kept_mem ha
      have := hI.uniq n k a a he hs (by omega) (by omega) rfl
      omega
theorem KI.len {S : Slots} {P : List E} (h : KI S P) (hI : Inv S) : (kept S 8).length ≤ P.length :=
  len_sub _ _ (kept_nodup hI 8 (by omega)) fun e he => by
    obtain ⟨n, hn, hs⟩ := kept_mem he
    exact h.sub n e hn hs
theorem take_keep {P0 : E → Bool} {es : List E} {j : Nat} {e : E} (h : es[j]? = some e) (hp : P0 e = true) : (es.take (j + 1)).filter P0 = (es.take j).filter P0 ++ [e] := by
  rw [List.take_add_one, h, List.filter_append]
  simp [hp]
theorem take_drop {P0 : E → Bool} {es : List E} {j : Nat} {e : E} (h : es[j]? = some e) (hp : P0 e = false) : (es.take (j + 1)).filter P0 = (es.take j).filter P0 := by
  rw [List.take_add_one, h, List.filter_append]
  simp [hp]
theorem eqe36 (e f : E) (he : e.ok) (hf : f.ok) (w : World) : (binOp .eql 36 (.agg #[.int .u64 e.at_, .int .i64 e.lv, .int .u64 e.sp, .bool e.gl, .int .u64 e.lf]) (.agg #[.int .u64 f.at_, .int .i64 f.lv, .int .u64 f.sp, .bool f.gl, .int .u64 f.lf])).run Try.prog w = .ok (.bool (decide (e = f))) w := by
  by_cases h : e = f
  · subst h
    rw [decide_eq_true rfl]
    exact run_eql_same flat36 named36 kt36 (formed36 _ _ _ _ _) (fits_e he)
  · rw [decide_eq_false h]
    refine run_eql_diff flat36 named36 kt36 (formed36 _ _ _ _ _) (formed36 _ _ _ _ _) (fits_e he) (fits_e hf) ?_
    intro c
    apply h
    obtain ⟨x1, x2, x3, x4, x5⟩ := e
    obtain ⟨y1, y2, y3, y4, y5⟩ := f
    simp at c
    obtain ⟨rfl, rfl, rfl, rfl, rfl⟩ := c
    rfl
theorem eqg36 {op : BinOp} {x y : Operand} {A B : Array Value} {v : Value} {w : World} (h : (binOp op 36 (.agg A) (.agg B)).run Try.prog w = .ok v w) : (do eqGuard op 36 x y (.agg A) (.agg B); binOp op 36 (.agg A) (.agg B) : Sem Value).run Try.prog w = .ok v w := by
  simp only [Sem.run_bind, run_eqGuard_agg (P := Try.prog) w op 36 x y A B (by kernel_rfl), Result.andThen_ok, h]
theorem load_es36 {w : World} {g o cap n i : Nat} {es : List E} {e : E} (h : Sl w 5 (.slice (some ⟨g, o, none⟩) n cap) n (ecs es)) (hi : es[i]? = some e) :
    (Instr.loadAt 36 (.pointer (some ⟨g, o + i * 5, none⟩))).run Try.prog w = .ok (.agg #[.int .u64 e.at_, .int .i64 e.lv, .int .u64 e.sp, .bool e.gl, .int .u64 e.lf]) w := by
  obtain ⟨g', o', _, hv, _, _, d0, d1, d2, d3, d4⟩ := cellsE h hi
  injection hv with hv _ _
  injection hv with hv
  injection hv with e1 e2
  subst e1 e2
  refine run_loadAt_mid w g (o + i * 5) 36 [.int .u64 e.at_, .int .i64 e.lv, .int .u64 e.sp, .bool e.gl, .int .u64 e.lf] _ (fun j v hj => ?_) Try.underlying36 rfl (by kernel_rfl)
  have h5 : j = 0 ∨ j = 1 ∨ j = 2 ∨ j = 3 ∨ j = 4 := by
    have := (List.getElem?_eq_some_iff.1 hj).1
    simp at this
    omega
  rcases h5 with rfl | rfl | rfl | rfl | rfl <;> (simp at hj; subst hj; assumption)

theorem len_keep {P0 : E → Bool} {es : List E} {j : Nat} {e : E} (h : es[j]? = some e) (hp : P0 e = true) : ((es.take (j + 1)).filter P0).length = ((es.take j).filter P0).length + 1 := by
  rw [take_keep h hp, List.length_append]
  rfl
theorem run_ixs46 (g o c n j : Nat) (h : j < n) (w : World) : (Instr.indexAt 46 (.slice (some ⟨g, o, none⟩) n c) (.int .i64 (j : Int))).run Try.prog w = .ok (.pointer (some ⟨g, o + j * 5, none⟩)) w := by
  have h1 : (0 : Int) ≤ (j : Int) := by omega
  have h2 : (j : Int) < (n : Int) := by omega
  rw [run_indexAt_slice (P := Try.prog) w 46 ⟨g, o, none⟩ n c .i64 (j : Int) rfl, if_pos ⟨h1, h2⟩, show (sizeOf (Try.prog.elem 46)).run Try.prog w = .ok 5 w from by kernel_rfl, Result.andThen_ok, Int.toNat_natCast]
  simp [Addr.add]

end Go.Proofs.Ytlkkmpfhhfaioaa
