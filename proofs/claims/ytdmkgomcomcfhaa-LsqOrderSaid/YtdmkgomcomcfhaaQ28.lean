/- Layer 23: LsqOrder: what Data, Look, Done, Pop do to the pass. -/
import Derived.Test.YtdmkgomcomcfhaaQ26
namespace Go.Proofs.Ytdmkgomcomcfhaa
open Go.RowKit

section
variable {Y : Nat → OpS} {n p k : Nat} {s : PS} {P : Nat → Int}
theorem OI.dataN (h : OI Y n s) {kk : Nat} {e : Ent} (he : s.q.l[kk]? = some e) : Go.Proofs.Ytdmkgomcomcfhaa.dataN s.q.l ((s.first + kk : Nat) : Int) = if e.store && !e.data then some kk else none := by
  unfold Go.Proofs.Ytdmkgomcomcfhaa.dataN
  rw [h.find (get_lt he)]
  dsimp only [Option.bind_some]
  rw [he]
  rfl
/-- Data. -/
theorem OI.dataQ (h : OI Y n s) {kk : Nat} {e : Ent} (he : s.q.l[kk]? = some e) :
    OI Y n { s with q := dataQ s.q ((s.first + kk : Nat) : Int) (Y (s.first + kk)).v } ∧ ((Go.Proofs.Ytdmkgomcomcfhaa.dataN s.q.l ((s.first + kk : Nat) : Int)).isSome = true → (Y (s.first + kk)).store = true) ∧
    ∀ e', (Go.Proofs.Ytdmkgomcomcfhaa.dataQ s.q ((s.first + kk : Nat) : Int) (Y (s.first + kk)).v).l[kk]? = some e' → e'.placed = e.placed ∧ (e'.store = true → e'.data = true) := by
  have hN := h.dataN he
  unfold Go.Proofs.Ytdmkgomcomcfhaa.dataQ
  rw [hN]
  cases hc : (e.store && !e.data) with
  | true =>
    simp only [Bool.and_eq_true, Bool.not_eq_true'] at hc
    rw [if_pos rfl]
    dsimp only
    rw [modify_set _ he]
    refine ⟨h.data he hc.1 hc.2 _, fun _ => by rw [← (h.ent kk e he).store]; exact hc.1, fun e' he' => ?_⟩
    rcases set_get he' with ⟨_, rfl⟩ | ⟨h1, _⟩
    · exact ⟨rfl, fun _ => rfl⟩
    · exact absurd rfl h1
  | false =>
    rw [if_neg (by simp)]
    dsimp only
    refine ⟨h, fun h2 => by simp at h2, fun e' he' => ?_⟩
    rw [he] at he'
    injection he' with he'
    subst he'
    refine ⟨rfl, fun hs => ?_⟩
    rw [hs] at hc
    simpa using hc
theorem PF.head (h : PF 4 s) {e : Ent} (he : s.q.l[0]? = some e) : e.ready = true := by
  unfold Ent.ready
  cases hs : e.store with
  | true => rw [if_pos rfl, h.f2 (by omega) e he, h.f3 (by omega) e he hs]; rfl
  | false => rw [if_neg (by simp)]; exact h.f4 (by omega) e he hs
theorem OI.entries (h : OI Y n s) (hI : QI s.q) (hY : ∀ i, i < n → YOk (Y i)) : ∀ e ∈ s.q.l, e.ok ∧ (e.placed = true → 4096 ≤ e.at_ ∧ e.at_ + e.size ≤ 8192) := by
  intro e he
  refine ⟨hI.ok e he, fun hp => ?_⟩
  obtain ⟨j, hj⟩ := List.getElem?_of_mem he
  obtain ⟨p1, p2⟩ := (h.ent j e hj).pl hp
  have := get_lt hj
  have hlen := h.len
  have hfn := h.fn
  have hy := hY (s.first + j) (by omega)
  have := hy.a0
  have := hy.a1
  omega
/-- What a load is told. -/
theorem OI.look (h : OI Y n s) (hI : QI s.q) (hY : ∀ i, i < n → YOk (Y i)) {kk : Nat} {e : Ent} (he : s.q.l[kk]? = some e) {mk vl : Int} (hl : lookQ s.q ((s.first + kk : Nat) : Int) = (⟨false, mk, vl⟩, true)) :
    e.store = false ∧ e.placed = true ∧ mk = wantN (kM s.q.l kk) (Y (s.first + kk)).at_.toNat (Y (s.first + kk)).size.toNat ∧ vl = rdM (bM s.q.l kk) (Y (s.first + kk)).at_.toNat (Y (s.first + kk)).size.toNat ∧
    ∀ b, b < (Y (s.first + kk)).size.toNat → dOK s.q.l kk ((Y (s.first + kk)).at_.toNat + b) := by
  have hk := get_lt he
  have hlen := h.len
  have hfn := h.fn
  obtain ⟨n', e', hf, he', hs, hp⟩ := look_some (q := s.q) (t := ((s.first + kk : Nat) : Int)) (by rw [hl])
  rw [h.find hk] at hf
  injection hf with hf
  subst hf
  rw [he] at he'
  injection he' with he'
  subst he'
  obtain ⟨p1, p2⟩ := (h.ent kk e he).pl hp
  have hy := hY (s.first + kk) (by omega)
  have y0 := hy.a0
  have y1 := hy.a1
  have hz : 0 < (Y (s.first + kk)).size ∧ (Y (s.first + kk)).size ≤ 8 := by rcases hy.sz with h | h | h | h <;> omega
  unfold lookQ at hl
  rw [h.find hk] at hl
  dsimp only at hl
  rw [he] at hl
  dsimp only at hl
  rw [hs, hp] at hl
  simp only [Bool.not_true, Bool.or_self, Bool.false_eq_true, if_false, Prod.mk.injEq, and_true] at hl
  unfold lookG at hl
  cases hw : (gotN s.q.l e kk (waitN s.q e kk) e.size.toNat).wait with
  | true => rw [hw] at hl; simp at hl
  | false =>
    rw [hw] at hl
    simp only [Bool.false_eq_true, if_false] at hl
    rw [p2] at hl hw
    obtain ⟨_, g2, g3⟩ := got_val (h.entries hI hY) (at0 := (Y (s.first + kk)).at_.toNat) (by rw [p1]; omega) _ (by omega) hw
    rw [g2] at hl
    injection hl with _ h1 h2
    exact ⟨hs, hp, h1.symm, h2.symm, g3⟩
/-- The first one never waits. -/
theorem look_front {e : Ent} (he : s.q.l[0]? = some e) (h : OI Y n s) (hs : e.store = false) (hp : e.placed = true) : lookQ s.q (s.first : Int) = (⟨false, 0, 0⟩, true) := by
  have hf := h.find (get_lt he)
  rw [Nat.add_zero] at hf
  unfold lookQ
  rw [hf]
  dsimp only
  rw [he]
  dsimp only
  rw [hs, hp]
  simp only [Bool.not_true, Bool.or_self, Bool.false_eq_true, if_false]
  unfold lookG
  rw [show waitN s.q e 0 = false from rfl]
  simp only [got_front]
  rfl
theorem OI.doneQ (h : OI Y n s) {kk : Nat} {e : Ent} (he : s.q.l[kk]? = some e) {mk vl : Int} (hl : lookQ s.q ((s.first + kk : Nat) : Int) = (⟨false, mk, vl⟩, true)) :
    Go.Proofs.Ytdmkgomcomcfhaa.doneQ s.q ((s.first + kk : Nat) : Int) = if e.read then (false, s.q) else (true, ⟨s.q.l.set kk { e with read := true }, s.q.h⟩) := by
  unfold Go.Proofs.Ytdmkgomcomcfhaa.doneQ
  rw [hl, h.find (get_lt he)]
  dsimp only
  rw [he]
  rfl
end
end Go.Proofs.Ytdmkgomcomcfhaa
