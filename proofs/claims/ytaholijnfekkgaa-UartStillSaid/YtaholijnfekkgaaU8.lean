/- The two ports as assertions of a heap; their contracts. -/
import Derived.Test.YtaholijnfekkgaaU6
import Derived.Test.YtaholijnfekkgaaHeap
namespace Go.Proofs.Ytaholijnfekkgaa
open Go.RowKit

def FP.of (c : Comp) : FP := ⟨c.own, c.rd⟩
theorem move_of_turn {w w' : World} {A A' : Comp} (t : Turn w w' A A') : Move w w' (FP.of A) (FP.of A') := ⟨t.os, t.tape, t.output, t.size, t.block, t.own, t.all⟩
theorem apart_of_disj {A B : Comp} (h : Disj A B) : Apart (FP.of A) (FP.of B) := ⟨h.one, h.two⟩
def HP.uu (b : Nat) (q s : List Int) (wa lo : Bool) (sc : Int) : HP where
  holds w c := ∃ qv sv, UU w b qv sv q s wa lo sc ∧ c = FP.of (UC b qv sv)
  loc := by rintro w w' c ⟨qv, sv, h, rfl⟩ hk; exact ⟨qv, sv, h.keep hk, rfl⟩
  lt := by rintro w c ⟨qv, sv, h, rfl⟩ k hk; exact h.lt k hk
def HP.ru (b : Nat) (q s : List Int) (rd : Nat) (wa lo : Bool) (sc : Int) : HP where
  holds w c := ∃ qv sv, RU w b qv sv q s rd wa lo sc ∧ c = FP.of (UC b qv sv)
  loc := by rintro w w' c ⟨qv, sv, h, rfl⟩ hk; exact ⟨qv, sv, h.keep hk, rfl⟩
  lt := by rintro w c ⟨qv, sv, h, rfl⟩ k hk; exact h.lt k hk

section
variable {w0 w w' : World} {L : List HP} {b : Nat} {q s : List Int} {rd : Nat} {wa lo : Bool} {sc : Int}
theorem Heap.uu (h : Heap w0 w (HP.uu b q s wa lo sc :: L)) : ∃ qv sv, UU w b qv sv q s wa lo sc ∧ (∀ {w' : World} {q' s' : List Int} {wa' lo' : Bool} {sc' : Int} {qv' sv' : Value}, UU w' b qv' sv' q' s' wa' lo' sc' → Turn w w' (UC b qv sv) (UC b qv' sv') → Heap w0 w' (HP.uu b q' s' wa' lo' sc' :: L)) ∧
    (∀ {w' : World} {b2 : Nat} {qv' sv' : Value}, UU w' b qv' sv' q s wa lo sc → UU w' b2 qv' sv' q s wa lo sc → Disj (UC b qv' sv') (UC b2 qv' sv') → Turn w w' (UC b qv sv) ((UC b qv' sv').add (UC b2 qv' sv')) → Heap w0 w' (HP.uu b2 q s wa lo sc :: HP.uu b q s wa lo sc :: L)) := by
  obtain ⟨c, ⟨qv, sv, hu, rfl⟩, k⟩ := h.pin
  refine ⟨qv, sv, hu, fun hu' t => k ⟨_, _, hu', rfl⟩ (move_of_turn t), fun {w' b2 qv' sv'} hu1 hu2 d t => ?_⟩
  exact (Heap.star.1 (k (A' := (HP.uu b q s wa lo sc).star (HP.uu b2 q s wa lo sc)) ⟨_, _, ⟨_, _, hu1, rfl⟩, ⟨_, _, hu2, rfl⟩, apart_of_disj d, rfl⟩ (move_of_turn t))).f2
theorem Heap.ru (h : Heap w0 w (HP.ru b q s rd wa lo sc :: L)) : ∃ qv sv, RU w b qv sv q s rd wa lo sc ∧ (∀ {w' : World} {b2 : Nat} {q' s' : List Int} {rd' : Nat} {wa' lo' : Bool} {sc' : Int} {qv' sv' : Value}, RU w' b2 qv' sv' q' s' rd' wa' lo' sc' → Turn w w' (UC b qv sv) (UC b2 qv' sv') → Heap w0 w' (HP.ru b2 q' s' rd' wa' lo' sc' :: L)) := by
  obtain ⟨c, ⟨qv, sv, hu, rfl⟩, k⟩ := h.pin
  exact ⟨qv, sv, hu, fun hu' t => k ⟨_, _, hu', rfl⟩ (move_of_turn t)⟩
theorem Heap.fresh {A : Comp} {A' : HP} (h : Heap w0 w L) (t : Turn w w' Comp.none A) (k : A'.holds w' (FP.of A)) : Heap w0 w' (A' :: L) :=
  (Heap.emp.2 h).step fun c hc => ⟨_, k, by have e : c = FP.of Comp.none := hc; subst e; exact move_of_turn t⟩

theorem new_h (h : Heap w0 w L) : Calls Try.prog 8 #[] w fun e w' => ∃ b, e = .returned (.pointer (some ⟨b, 0, none⟩)) ∧ Heap w0 w' (HP.uu b [] [] false false 0 :: L) :=
  (new_any w).mono fun _ _ ⟨b, he, hu, t⟩ => ⟨b, he, h.fresh t ⟨_, _, hu, rfl⟩⟩
theorem newR_h (h : Heap w0 w L) : Calls Try.prog 9 #[] w fun e w' => ∃ b, e = .returned (.pointer (some ⟨b, 0, none⟩)) ∧ Heap w0 w' (HP.ru b [] [] 0 false false 0 :: L) :=
  (newR_any w).mono fun _ _ ⟨b, he, hu, t⟩ => ⟨b, he, h.fresh t ⟨_, _, hu, rfl⟩⟩
theorem give_h (h : Heap w0 w (HP.uu b q s wa lo sc :: L)) (x : Int) (hx0 : 0 ≤ x) (hx1 : x < 256) : Calls Try.prog 16 #[.pointer (some ⟨b, 0, none⟩), .int .u8 x] w fun e w' =>
    e = .returned (.tuple #[]) ∧ Heap w0 w' (HP.uu b (if 16 ≤ q.length then q else q ++ [x]) s wa (if 16 ≤ q.length then true else lo) sc :: L) := by
  obtain ⟨qv, sv, hu, k, _⟩ := h.uu
  exact (give_any hu x hx0 hx1).mono fun _ _ ⟨he, qv', hu', t⟩ => ⟨he, k hu' t⟩
theorem giveR_h (h : Heap w0 w (HP.ru b q s rd wa lo sc :: L)) (hl : q.length < 140737488355328) (x : Int) (hx0 : 0 ≤ x) (hx1 : x < 256) : Calls Try.prog 17 #[.pointer (some ⟨b, 0, none⟩), .int .u8 x] w fun e w' =>
    e = .returned (.tuple #[]) ∧ Heap w0 w' (HP.ru b (if 16 ≤ q.length - rd then q else q ++ [x]) s rd wa (if 16 ≤ q.length - rd then true else lo) sc :: L) := by
  obtain ⟨qv, sv, hu, k⟩ := h.ru
  exact (giveR_any hu hl x hx0 hx1).mono fun _ _ ⟨he, qv', hu', t⟩ => ⟨he, k hu' t⟩
theorem write_h (h : Heap w0 w (HP.uu b q s wa lo sc :: L)) (hs : s.length < 140737488355328) (at_ size v : Int) (a0 : 0 ≤ at_) (v0 : 0 ≤ v) (v1 : v < 18446744073709551616) :
    Calls Try.prog 10 #[.pointer (some ⟨b, 0, none⟩), .int .u64 at_, .int .i64 size, .int .u64 v] w fun e w' =>
    e = .returned (.bool (rOk at_ size)) ∧ Heap w0 w' (HP.uu b q (wS s at_ size v) (wWa wa at_ size v) lo (wSc sc at_ size v) :: L) := by
  obtain ⟨qv, sv, hu, k, _⟩ := h.uu
  exact (write_any hu hs at_ size v a0 v0 v1).mono fun _ _ ⟨he, qv', hu', t⟩ => ⟨he, k hu' t⟩
theorem writeR_h (h : Heap w0 w (HP.ru b q s rd wa lo sc :: L)) (hs : s.length < 140737488355328) (at_ size v : Int) (a0 : 0 ≤ at_) (v0 : 0 ≤ v) (v1 : v < 18446744073709551616) :
    Calls Try.prog 11 #[.pointer (some ⟨b, 0, none⟩), .int .u64 at_, .int .i64 size, .int .u64 v] w fun e w' =>
    e = .returned (.bool (rOk at_ size)) ∧ Heap w0 w' (HP.ru b q (wS s at_ size v) rd (wWa wa at_ size v) lo (wSc sc at_ size v) :: L) := by
  obtain ⟨qv, sv, hu, k⟩ := h.ru
  exact (writeR_any hu hs at_ size v a0 v0 v1).mono fun _ _ ⟨he, qv', hu', t⟩ => ⟨he, k hu' t⟩
theorem read_h (h : Heap w0 w (HP.uu b q s wa lo sc :: L)) (at_ size : Int) (a0 : 0 ≤ at_) : Calls Try.prog 12 #[.pointer (some ⟨b, 0, none⟩), .int .u64 at_, .int .i64 size] w fun e w' =>
    e = .returned (.tuple #[.int .u64 (rV q wa lo sc at_ size), .bool (rOk at_ size)]) ∧ Heap w0 w' (HP.uu b (rQ q at_ size) s wa (rLo lo at_ size) sc :: L) := by
  obtain ⟨qv, sv, hu, k, _⟩ := h.uu
  exact (read_any hu at_ size a0).mono fun _ _ ⟨he, qv', hu', t⟩ => ⟨he, k hu' t⟩
theorem readR_h (h : Heap w0 w (HP.ru b q s rd wa lo sc :: L)) (hl : q.length < 140737488355328) (at_ size : Int) (a0 : 0 ≤ at_) : Calls Try.prog 13 #[.pointer (some ⟨b, 0, none⟩), .int .u64 at_, .int .i64 size] w fun e w' =>
    e = .returned (.tuple #[.int .u64 (rV (q.drop rd) wa lo sc at_ size), .bool (rOk at_ size)]) ∧ Heap w0 w' (HP.ru b q s (rRd q rd at_ size) wa (rLo lo at_ size) sc :: L) := by
  obtain ⟨qv, sv, hu, k⟩ := h.ru
  exact (readR_any hu hl at_ size a0).mono fun _ _ ⟨he, qv', hu', t⟩ => ⟨he, k hu' t⟩
theorem copy_h (h : Heap w0 w (HP.uu b q s wa lo sc :: L)) : Calls Try.prog 14 #[.pointer (some ⟨b, 0, none⟩)] w fun e w' =>
    ∃ b', e = .returned (.pointer (some ⟨b', 0, none⟩)) ∧ Heap w0 w' (HP.uu b' q s wa lo sc :: HP.uu b q s wa lo sc :: L) := by
  obtain ⟨qv, sv, hu, _, k⟩ := h.uu
  exact (copy_any hu).mono fun _ _ ⟨b', qv', sv', he, hu1, hu2, d, t⟩ => ⟨b', he, k hu1 hu2 d t⟩
theorem copyR_h (h : Heap w0 w (HP.ru b q s rd wa lo sc :: L)) (hq : q.length ≤ 140737488355328) (hs : s.length ≤ 140737488355328) : Calls Try.prog 15 #[.pointer (some ⟨b, 0, none⟩)] w fun e w' =>
    ∃ b', e = .returned (.pointer (some ⟨b', 0, none⟩)) ∧ Heap w0 w' (HP.ru b' q s rd wa lo sc :: HP.ru b q s rd wa lo sc :: L) := by
  obtain ⟨qv, sv, hu, _⟩ := h.ru
  exact (copyR_any hu hq hs).mono fun _ _ ⟨b', qv', sv', he, hu1, t⟩ => ⟨b', he, h.fresh t ⟨_, _, hu1, rfl⟩⟩
theorem up_h (h : Heap w0 w (HP.uu b q s wa lo sc :: L)) : Calls Try.prog 18 #[.pointer (some ⟨b, 0, none⟩)] w fun e w' => e = .returned (.bool (wa && decide (0 < q.length))) ∧ w' = w := by
  obtain ⟨qv, sv, hu, _⟩ := h.uu
  exact up_any hu
theorem upR_h (h : Heap w0 w (HP.ru b q s rd wa lo sc :: L)) : Calls Try.prog 19 #[.pointer (some ⟨b, 0, none⟩)] w fun e w' => e = .returned (.bool (wa && decide (rd < q.length))) ∧ ∃ m, w' = w.drewN m := by
  obtain ⟨qv, sv, hu, _⟩ := h.ru
  exact upR_any hu
theorem Heap.made {v : Value} {sz n : Nat} {xs : List Value} (h : Heap w0 w L) (hg : w.grownBy w' none) (hs : Sl w' sz v n xs) (hb : ∀ g, sblk v = some g → w.heap.size ≤ g) : Heap w0 w' (HP.slw v sz n xs :: L) :=
  (Heap.emp.2 h).step fun c hc => ⟨_, ⟨hs, rfl⟩, .of_grown hg (by simp) (fun x hx => .inr (hb x hx)) (fun x hx => .inr (hx.elim (hb x) (hb x)))⟩
theorem sent_h (h : Heap w0 w (HP.uu b q s wa lo sc :: L)) (hs : s.length ≤ 140737488355328) : Calls Try.prog 20 #[.pointer (some ⟨b, 0, none⟩)] w fun e w' =>
    ∃ v', e = .returned v' ∧ Sl w' 1 v' s.length (s.map bv) ∧ Heap w0 w' (HP.slw v' 1 s.length (s.map bv) :: HP.uu b q s wa lo sc :: L) := by
  obtain ⟨qv, sv, hu, _⟩ := h.uu
  exact (sent_any hu hs).mono fun _ _ ⟨v', he, hsl, hg, hb⟩ => ⟨v', he, hsl, h.made hg hsl fun g hgv => by rcases hb with e | e <;> rw [hgv] at e <;> cases e; exact Nat.le_refl _⟩
theorem sentR_h (h : Heap w0 w (HP.ru b q s rd wa lo sc :: L)) (hs : s.length ≤ 140737488355328) : Calls Try.prog 21 #[.pointer (some ⟨b, 0, none⟩)] w fun e w' =>
    ∃ v', e = .returned v' ∧ Sl w' 1 v' s.length (s.map bv) ∧ Heap w0 w' (HP.slw v' 1 s.length (s.map bv) :: HP.ru b q s rd wa lo sc :: L) := by
  obtain ⟨qv, sv, hu, _⟩ := h.ru
  exact (sentR_any hu hs).mono fun _ _ ⟨v', he, hsl, hg, hb⟩ => ⟨v', he, hsl, h.made hg hsl hb⟩
end
end Go.Proofs.Ytaholijnfekkgaa
