/- Layer 23: the plain law of LsqOrder, first half: givers, bytes, what each call keeps. -/
import Derived.Test.YtdmkgomcomcfhaaQ21
namespace Go.Proofs.Ytdmkgomcomcfhaa
open Go.RowKit

/-! ### givers -/
def gv (l : List Ent) (a : Int) (i : Nat) : Bool := match l[i]? with | some e => e.store && e.has a | none => false
theorem giver_gv (l : List Ent) (a : Int) (n : Nat) : giver l a (n + 1) = if gv l a n then some n else giver l a n := by
  conv => lhs; unfold giver
  unfold gv
  cases he : l[n]? <;> simp
theorem giver_ext {l l' : List Ent} {a : Int} : ∀ {n : Nat}, (∀ i, i < n → gv l a i = gv l' a i) → giver l a n = giver l' a n := by
  intro n
  induction n with
  | zero => intro _; rfl
  | succ n ih => intro h; rw [giver_gv, giver_gv, h n (by omega), ih fun i hi => h i (by omega)]
theorem giver_lt {l : List Ent} {a : Int} : ∀ {n g : Nat}, giver l a n = some g → g < n ∧ gv l a g = true := by
  intro n
  induction n with
  | zero => intro g h; cases h
  | succ n ih =>
    intro g h
    rw [giver_gv] at h
    split at h
    · rename_i hg
      injection h with h
      subst h
      exact ⟨by omega, hg⟩
    · have := ih h
      exact ⟨by omega, this.2⟩
theorem giver_noneN {l : List Ent} {a : Int} : ∀ {n : Nat}, giver l a n = none → ∀ i, i < n → gv l a i = false := by
  intro n
  induction n with
  | zero => intro _ i hi; omega
  | succ n ih =>
    intro h i hi
    rw [giver_gv] at h
    split at h
    · cases h
    · rename_i hg
      by_cases h1 : i = n
      · subst h1; simpa using hg
      · exact ih h i (by omega)
/-- What a byte is of: a store ahead, or memory. -/
def src (l : List Ent) (m : Nat → Int) (j a : Nat) : Int := match giver l ((4096 + a : Nat) : Int) j with
  | none => m a
  | some g => match l[g]? with
    | some s => s.v / 2 ^ (8 * (4096 + a - s.at_.toNat)) % 256
    | none => 0
def dOK (l : List Ent) (j a : Nat) : Prop := ∀ g s, giver l ((4096 + a : Nat) : Int) j = some g → l[g]? = some s → s.data = true
structure Alike (a : Int) (e e' : Ent) : Prop where
  gv : (e'.store && e'.has a) = (e.store && e.has a)
  v : (e.store && e.has a) = true → e'.v = e.v
  at_ : (e.store && e.has a) = true → e'.at_ = e.at_
  data : (e.store && e.has a) = true → e'.data = e.data
theorem Alike.refl (a : Int) (e : Ent) : Alike a e e := ⟨rfl, fun _ => rfl, fun _ => rfl, fun _ => rfl⟩
theorem src_ext {l l' : List Ent} {m : Nat → Int} {j a : Nat} (h : ∀ i e, i < j → l[i]? = some e → ∃ e', l'[i]? = some e' ∧ Alike ((4096 + a : Nat) : Int) e e') (hl : l'.length = l.length) : src l' m j a = src l m j a ∧ (dOK l j a → dOK l' j a) := by
  have hg : ∀ i, i < j → gv l' ((4096 + a : Nat) : Int) i = gv l ((4096 + a : Nat) : Int) i := by
    intro i hi
    unfold gv
    cases he : l[i]? with
    | none =>
      have : l'[i]? = none := by rw [List.getElem?_eq_none_iff] at he ⊢; omega
      rw [this]
    | some e =>
      obtain ⟨e', he', ha⟩ := h i e hi he
      rw [he']
      exact ha.gv
  have hgi := giver_ext (n := j) hg
  refine ⟨?_, fun hd g s hgg hs => ?_⟩
  · unfold src
    rw [hgi]
    cases hgg : giver l ((4096 + a : Nat) : Int) j with
    | none => rfl
    | some g =>
      obtain ⟨hlt, hv⟩ := giver_lt hgg
      unfold gv at hv
      cases he : l[g]? with
      | none => rw [he] at hv; cases hv
      | some e =>
        rw [he] at hv
        obtain ⟨e', he', ha⟩ := h g e hlt he
        dsimp only
        rw [he', he]
        dsimp only
        rw [ha.v hv, ha.at_ hv]
  · rw [hgi] at hgg
    obtain ⟨hlt, hv⟩ := giver_lt hgg
    unfold gv at hv
    cases he : l[g]? with
    | none => rw [he] at hv; cases hv
    | some e =>
      rw [he] at hv
      obtain ⟨e', he', ha⟩ := h g e hlt he
      rw [he'] at hs
      injection hs with hs
      subst hs
      rw [ha.data hv]
      exact hd g e hgg he
theorem rdM_ext {M M' : Nat → Int} {a : Nat} : ∀ {z : Nat}, (∀ b, b < z → M (a + b) = M' (a + b)) → rdM M a z = rdM M' a z := by
  intro z
  induction z with
  | zero => intro _; rfl
  | succ z ih => intro h; rw [rdM_succ, rdM_succ, h z (by omega), ih fun b hb => h b (by omega)]

/-! ### the run's state -/
def memP (Y : Nat → OpS) : Nat → Nat → Int
  | 0 => fun _ => 0
  | k + 1 => if (Y k).store then wrM (memP Y k) (Y k).at_.toNat (Y k).size.toNat (Y k).v else memP Y k
theorem memP_bm (Y : Nat → OpS) : ∀ k, BM (memP Y k) := by
  intro k
  induction k with
  | zero => intro j; exact ⟨by simp [memP], by simp [memP]⟩
  | succ k ih =>
    unfold memP
    split
    · exact wrM_bm ih _ _ _
    · exact ih
structure EOk (Y : Nat → OpS) (i : Nat) (e : Ent) : Prop where
  tag : e.tag = (i : Int)
  store : e.store = (Y i).store
  pl : e.placed = true → e.at_ = 4096 + (Y i).at_ ∧ e.size = (Y i).size
  dt : e.data = true → e.v = (Y i).v
structure PS where
  q : Qs
  first : Nat
  next : Nat
  has : Nat → Bool
  got : Nat → Int
  m : Nat → Int
structure OI (Y : Nat → OpS) (n : Nat) (s : PS) : Prop where
  fn : s.first ≤ s.next ∧ s.next ≤ n
  len : s.q.l.length = s.next - s.first
  ent : ∀ j e, s.q.l[j]? = some e → EOk Y (s.first + j) e
  has : ∀ j e, s.q.l[j]? = some e → e.store = false → s.has (s.first + j) = e.read
  hasN : ∀ i, s.next ≤ i → s.has i = false
  mem : s.m = memP Y s.first
  got : ∀ j e, s.q.l[j]? = some e → e.read = true → s.got (s.first + j) = rdM (src s.q.l s.m j) (Y (s.first + j)).at_.toNat (Y (s.first + j)).size.toNat ∧ ∀ b, b < (Y (s.first + j)).size.toNat → dOK s.q.l j ((Y (s.first + j)).at_.toNat + b)
theorem OI.start (Y : Nat → OpS) (n : Nat) : OI Y n ⟨Q0, 0, 0, fun _ => false, fun _ => 0, fun _ => 0⟩ :=
  ⟨⟨by simp, by simp⟩, rfl, fun j e h => by simp [Q0] at h, fun j e h => by simp [Q0] at h, fun _ _ => rfl, rfl, fun j e h => by simp [Q0] at h⟩
section
variable {Y : Nat → OpS} {n : Nat} {s : PS}
theorem get_lt {α : Type} {l : List α} {j : Nat} {e : α} (h : l[j]? = some e) : j < l.length := (List.getElem?_eq_some_iff.1 h).1
theorem set_get {α : Type} {l : List α} {k j : Nat} {e e' : α} (h : (l.set k e')[j]? = some e) : (j = k ∧ e = e') ∨ (j ≠ k ∧ l[j]? = some e) := by
  rw [List.getElem?_set] at h
  split at h
  · split at h
    · injection h with h
      rename_i h1 _
      exact .inl ⟨h1.symm, h.symm⟩
    · cases h
  · rename_i h1
    exact .inr ⟨fun e => h1 e.symm, h⟩
/-- One comes in. -/
theorem OI.come (h : OI Y n s) (hn : s.next < n) : OI Y n { s with q := ⟨s.q.l ++ [Ent.fresh (s.next : Int) (Y s.next).pc (Y s.next).store], s.q.h⟩, next := s.next + 1 } := by
  have hlen := h.len
  have hfn := h.fn
  have split : ∀ j e, (s.q.l ++ [Ent.fresh (s.next : Int) (Y s.next).pc (Y s.next).store])[j]? = some e → (s.q.l[j]? = some e ∧ j < s.q.l.length) ∨ (j = s.q.l.length ∧ e = Ent.fresh (s.next : Int) (Y s.next).pc (Y s.next).store) := by
    intro j e he
    by_cases hj : j < s.q.l.length
    · rw [List.getElem?_append_left hj] at he
      exact .inl ⟨he, hj⟩
    · rw [List.getElem?_append_right (by omega)] at he
      have := get_lt he
      simp at this
      obtain rfl : j = s.q.l.length := by omega
      simp at he
      exact .inr ⟨rfl, he.symm⟩
  have hi : s.first + s.q.l.length = s.next := by omega
  refine ⟨⟨by dsimp only; omega, by dsimp only; omega⟩, by dsimp only; rw [List.length_append]; simp; omega, fun j e he => ?_, fun j e he hs => ?_, fun i hi => h.hasN i (by dsimp only at hi; omega), h.mem, fun j e he hr => ?_⟩
  · rcases split j e he with ⟨h1, _⟩ | ⟨rfl, rfl⟩
    · exact h.ent j e h1
    · dsimp only
      rw [hi]
      exact ⟨rfl, rfl, (fun h => by cases h), (fun h => by cases h)⟩
  · rcases split j e he with ⟨h1, _⟩ | ⟨rfl, rfl⟩
    · exact h.has j e h1 hs
    · dsimp only
      rw [hi]
      exact h.hasN _ (Nat.le_refl _)
  · rcases split j e he with ⟨h1, hj⟩ | ⟨rfl, rfl⟩
    · obtain ⟨g1, g2⟩ := h.got j e h1 hr
      have hx : ∀ a, src (s.q.l ++ [Ent.fresh (s.next : Int) (Y s.next).pc (Y s.next).store]) s.m j a = src s.q.l s.m j a ∧ (dOK s.q.l j a → dOK (s.q.l ++ [Ent.fresh (s.next : Int) (Y s.next).pc (Y s.next).store]) j a) := by
        intro a
        have hgi : giver (s.q.l ++ [Ent.fresh (s.next : Int) (Y s.next).pc (Y s.next).store]) ((4096 + a : Nat) : Int) j = giver s.q.l ((4096 + a : Nat) : Int) j := giver_congr fun i hij => List.getElem?_append_left (by omega)
        refine ⟨?_, fun hd g t hg ht => ?_⟩
        · unfold src
          rw [hgi]
          cases hg : giver s.q.l ((4096 + a : Nat) : Int) j with
          | none => rfl
          | some g =>
            have := (giver_lt hg).1
            dsimp only
            rw [List.getElem?_append_left (by omega)]
        · rw [hgi] at hg
          have := (giver_lt hg).1
          rw [List.getElem?_append_left (by omega)] at ht
          exact hd g t hg ht
      dsimp only
      exact ⟨by rw [g1]; exact rdM_ext fun b _ => ((hx _).1).symm, fun b hb => (hx _).2 (g2 b hb)⟩
    · cases hr
/-- What turns entries without their bytes: loads, and stores of which no load has read. -/
theorem OI.turn (h : OI Y n s) {l' : List Ent} {hb' : Hb} {has' : Nat → Bool} (hl : l'.length = s.q.l.length)
    (hent : ∀ j e', l'[j]? = some e' → EOk Y (s.first + j) e') (hhas : ∀ j e', l'[j]? = some e' → e'.store = false → has' (s.first + j) = e'.read) (hasN : ∀ i, s.next ≤ i → has' i = false)
    (hrd : ∀ j e', l'[j]? = some e' → e'.read = true → ∃ e, s.q.l[j]? = some e ∧ e.read = true ∧ ∀ b, b < (Y (s.first + j)).size.toNat → src l' s.m j ((Y (s.first + j)).at_.toNat + b) = src s.q.l s.m j ((Y (s.first + j)).at_.toNat + b) ∧ dOK l' j ((Y (s.first + j)).at_.toNat + b)) :
    OI Y n { s with q := ⟨l', hb'⟩, has := has' } := by
  refine ⟨h.fn, by dsimp only; rw [hl]; exact h.len, hent, hhas, hasN, h.mem, fun j e' he' hr => ?_⟩
  obtain ⟨e, he, hre, hb⟩ := hrd j e' he' hr
  obtain ⟨g1, g2⟩ := h.got j e he hre
  dsimp only
  exact ⟨by rw [g1]; exact rdM_ext fun b hbz => ((hb b hbz).1).symm, fun b hbz => (hb b hbz).2⟩
/-- What a store writes becomes known. -/
theorem OI.data (h : OI Y n s) {k : Nat} {e : Ent} (he : s.q.l[k]? = some e) (hs : e.store = true) (hd : e.data = false) (hb : Hb) :
    OI Y n { s with q := ⟨s.q.l.set k { e with data := true, v := (Y (s.first + k)).v }, hb⟩ } := by
  have hk := get_lt he
  have hE := h.ent k e he
  refine h.turn (List.length_set ..) (fun j e' hj => ?_) (fun j e' hj hs' => ?_) h.hasN (fun j e' hj hr => ?_)
  · rcases set_get hj with ⟨rfl, rfl⟩ | ⟨_, h1⟩
    · exact ⟨hE.tag, hE.store, hE.pl, fun _ => rfl⟩
    · exact h.ent j e' h1
  · rcases set_get hj with ⟨rfl, rfl⟩ | ⟨_, h1⟩
    · rw [hs] at hs'; cases hs'
    · exact h.has j e' h1 hs'
  · have hex : ∃ e0, s.q.l[j]? = some e0 ∧ e0.read = true := by
      rcases set_get hj with ⟨rfl, rfl⟩ | ⟨_, h1⟩
      · exact ⟨e, he, hr⟩
      · exact ⟨e', h1, hr⟩
    obtain ⟨e0, he0, hr0⟩ := hex
    obtain ⟨_, g2⟩ := h.got j e0 he0 hr0
    refine ⟨e0, he0, hr0, fun b hbz => ?_⟩
    have hdk := g2 b hbz
    have hgi : giver (s.q.l.set k { e with data := true, v := (Y (s.first + k)).v }) ((4096 + ((Y (s.first + j)).at_.toNat + b) : Nat) : Int) j = giver s.q.l ((4096 + ((Y (s.first + j)).at_.toNat + b) : Nat) : Int) j := by
      refine giver_ext fun i _ => ?_
      unfold gv
      rw [List.getElem?_set]
      by_cases hik : k = i
      · subst hik
        rw [if_pos rfl, if_pos hk, he]
        rfl
      · rw [if_neg hik]
    refine ⟨?_, fun g t hg ht => ?_⟩
    · unfold src
      rw [hgi]
      cases hg : giver s.q.l ((4096 + ((Y (s.first + j)).at_.toNat + b) : Nat) : Int) j with
      | none => rfl
      | some g =>
        dsimp only
        have hgk : g ≠ k := fun e1 => by
          subst e1
          have := hdk g e hg he
          rw [hd] at this; cases this
        rw [List.getElem?_set, if_neg (fun e => hgk e.symm)]
    · rw [hgi] at hg
      rcases set_get ht with ⟨rfl, rfl⟩ | ⟨_, h1⟩
      · rfl
      · exact hdk g t hg h1
/-- A load has read. -/
theorem OI.read (h : OI Y n s) {k : Nat} {e : Ent} (he : s.q.l[k]? = some e) (hs : e.store = false) (hb : Hb) {v : Int}
    (hv : v = rdM (src s.q.l s.m k) (Y (s.first + k)).at_.toNat (Y (s.first + k)).size.toNat) (hd : ∀ b, b < (Y (s.first + k)).size.toNat → dOK s.q.l k ((Y (s.first + k)).at_.toNat + b)) :
    OI Y n { s with q := ⟨s.q.l.set k { e with read := true }, hb⟩, has := fun i => if i = s.first + k then true else s.has i, got := fun i => if i = s.first + k then v else s.got i } := by
  have hk := get_lt he
  have hE := h.ent k e he
  have hlen := h.len
  have hx : ∀ j a, src (s.q.l.set k { e with read := true }) s.m j a = src s.q.l s.m j a ∧ (dOK s.q.l j a → dOK (s.q.l.set k { e with read := true }) j a) := fun j a => src_ext (fun i e0 _ he0 => by
    by_cases hik : k = i
    · subst hik
      rw [he] at he0
      injection he0 with he0
      subst he0
      exact ⟨{ e with read := true }, by rw [List.getElem?_set, if_pos rfl, if_pos hk], ⟨rfl, fun _ => rfl, fun _ => rfl, fun _ => rfl⟩⟩
    · exact ⟨e0, by rw [List.getElem?_set, if_neg hik]; exact he0, Alike.refl _ _⟩) (List.length_set ..)
  refine ⟨h.fn, by dsimp only; rw [List.length_set]; exact hlen, fun j e' hj => ?_, fun j e' hj hs' => ?_, fun i hi => ?_, h.mem, fun j e' hj hr => ?_⟩
  · rcases set_get hj with ⟨rfl, rfl⟩ | ⟨_, h1⟩
    · exact ⟨hE.tag, hE.store, hE.pl, hE.dt⟩
    · exact h.ent j e' h1
  · dsimp only
    rcases set_get hj with ⟨rfl, rfl⟩ | ⟨hne, h1⟩
    · rw [if_pos rfl]
    · rw [if_neg (by omega)]; exact h.has j e' h1 hs'
  · dsimp only at hi ⊢
    have := h.fn
    rw [if_neg (by omega)]
    exact h.hasN i hi
  · dsimp only
    rcases set_get hj with ⟨rfl, rfl⟩ | ⟨hne, h1⟩
    · rw [if_pos rfl, hv]
      exact ⟨rdM_ext fun b _ => ((hx _ _).1).symm, fun b hb => (hx _ _).2 (hd b hb)⟩
    · rw [if_neg (by omega)]
      obtain ⟨g1, g2⟩ := h.got j e' h1 hr
      exact ⟨by rw [g1]; exact rdM_ext fun b _ => ((hx _ _).1).symm, fun b hb => (hx _ _).2 (g2 b hb)⟩
end
end Go.Proofs.Ytdmkgomcomcfhaa
