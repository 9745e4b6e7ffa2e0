/- Layer 23: the plain law of LsqOrder: a place becomes known, the first one leaves, what a load gets. -/
import Derived.Test.YtdmkgomcomcfhaaQ23
namespace Go.Proofs.Ytdmkgomcomcfhaa
open Go.RowKit

section
variable {Y : Nat → OpS} {n : Nat} {s : PS}
theorem OI.tags (h : OI Y n s) {i : Nat} {x : Ent} (hx : s.q.l[i]? = some x) : x.tag = ((s.first + i : Nat) : Int) := (h.ent i x hx).tag
theorem OI.find (h : OI Y n s) {k : Nat} (hk : k < s.q.l.length) : findN s.q.l ((s.first + k : Nat) : Int) = some k := by
  obtain ⟨e, he⟩ : ∃ e, s.q.l[k]? = some e := ⟨_, List.getElem?_eq_getElem hk⟩
  exact findN_at he (h.tags he) fun j e' hj he' => by rw [h.tags he']; omega
theorem giver_not {l l' : List Ent} {a : Int} {k : Nat} (hk : gv l a k = false) : ∀ {j : Nat}, (∀ i, i < j → i ≠ k → gv l' a i = gv l a i) → giver l' a j ≠ some k → giver l' a j = giver l a j := by
  intro j
  induction j with
  | zero => intro _ _; rfl
  | succ j ih =>
    intro h hne
    rw [giver_gv] at hne ⊢
    rw [giver_gv]
    by_cases hv : gv l' a j = true
    · rw [if_pos hv] at hne ⊢
      have hjk : j ≠ k := fun e => hne (by rw [e])
      rw [← h j (by omega) hjk, if_pos hv]
    · rw [if_neg hv] at hne ⊢
      have : gv l a j = false := by
        by_cases hjk : j = k
        · rw [hjk]; exact hk
        · rw [← h j (by omega) hjk]; simpa using hv
      rw [this]
      exact ih (fun i hi => h i (by omega)) hne
theorem src_same {l l' : List Ent} {m : Nat → Int} {j a : Nat} (hg : giver l' ((4096 + a : Nat) : Int) j = giver l ((4096 + a : Nat) : Int) j)
    (h : ∀ g e, giver l ((4096 + a : Nat) : Int) j = some g → l[g]? = some e → ∃ e', l'[g]? = some e' ∧ e'.v = e.v ∧ e'.at_ = e.at_ ∧ e'.data = e.data) : src l' m j a = src l m j a ∧ (dOK l j a → dOK l' j a) := by
  refine ⟨?_, fun hd g t hgg ht => ?_⟩
  · unfold src
    rw [hg]
    cases hgg : giver l ((4096 + a : Nat) : Int) j with
    | none => rfl
    | some g =>
      have hv := (giver_lt hgg).2
      unfold gv at hv
      cases he : l[g]? with
      | none => rw [he] at hv; cases hv
      | some e =>
        obtain ⟨e', he', h1, h2, _⟩ := h g e hgg he
        dsimp only
        rw [he', he]
        dsimp only
        rw [h1, h2]
  · rw [hg] at hgg
    have hv := (giver_lt hgg).2
    unfold gv at hv
    cases he : l[g]? with
    | none => rw [he] at hv; cases hv
    | some e =>
      obtain ⟨e', he', _, _, h3⟩ := h g e hgg he
      rw [he'] at ht
      injection ht with ht
      subst ht
      rw [h3]
      exact hd g e hgg he
theorem early_iff {l : List Ent} {k m : Nat} {a : Int} {z : Nat} : early l k m a z = false ↔ ∀ b, b < z → giver l (wrapA a b) k ≠ some m := by
  unfold early
  rw [List.any_eq_false]
  constructor
  · intro h b hb; simpa using h b (List.mem_range.2 hb)
  · intro h b hb; simpa using h b (List.mem_range.1 hb)
theorem early_ext {l l' : List Ent} {k m : Nat} {a : Int} {z : Nat} (h : ∀ b, giver l' b k = giver l b k) : early l' k m a z = early l k m a z := by
  unfold early
  simp only [h]
def fl (L : List Ent) (k i : Nat) (x : Ent) : Bool := !x.store && x.read && early L i k x.at_ x.size.toNat
/-- The loop of Where: which loads must read anew. -/
structure WL (L : List Ent) (f k j : Nat) (S : WS) : Prop where
  len : S.l.length = L.length
  at_ : ∀ i x, L[i]? = some x → S.l[i]? = some (if k < i ∧ i < k + 1 + j ∧ fl L k i x = true then { x with read := false } else x)
  up : S.out.Pairwise (· < ·)
  out : ∀ t, t ∈ S.out ↔ ∃ i x, L[i]? = some x ∧ k < i ∧ i < k + 1 + j ∧ fl L k i x = true ∧ t = ((f + i : Nat) : Int)
theorem WL.gv {L : List Ent} {f k j : Nat} {S : WS} (h : WL L f k j S) (a : Int) (i : Nat) : Go.Proofs.Ytdmkgomcomcfhaa.gv S.l a i = Go.Proofs.Ytdmkgomcomcfhaa.gv L a i := by
  unfold Go.Proofs.Ytdmkgomcomcfhaa.gv
  cases hx : L[i]? with
  | none =>
    have : S.l[i]? = none := by have := h.len; rw [List.getElem?_eq_none_iff] at hx ⊢; omega
    rw [this]
  | some x =>
    rw [h.at_ i x hx]
    dsimp only
    split <;> rfl
theorem WL.giver {L : List Ent} {f k j : Nat} {S : WS} (h : WL L f k j S) (a : Int) (i : Nat) : Go.Proofs.Ytdmkgomcomcfhaa.giver S.l a i = Go.Proofs.Ytdmkgomcomcfhaa.giver L a i := giver_ext fun i _ => h.gv a i
theorem whLoop_wl {L : List Ent} {f k : Nat} {pc : Int} {hb : Hb} (ht : ∀ i x, L[i]? = some x → x.tag = ((f + i : Nat) : Int)) : ∀ j, k + 1 + j ≤ L.length → WL L f k j (whLoop k pc ⟨L, hb, []⟩ (k + 1) j) := by
  intro j
  induction j with
  | zero =>
    intro _
    refine ⟨rfl, fun i x hx => ?_, .nil, fun t => ⟨fun h => by simp [whLoop] at h, fun ⟨i, x, _, h1, h2, _⟩ => by omega⟩⟩
    rw [if_neg (by omega)]
    exact hx
  | succ j ih =>
    intro hj
    have W := ih (by omega)
    unfold whLoop
    obtain ⟨S, hS⟩ : ∃ S, whLoop k pc ⟨L, hb, []⟩ (k + 1) j = S := ⟨_, rfl⟩
    rw [hS] at W ⊢
    clear hS
    obtain ⟨x, hx⟩ : ∃ x, L[k + 1 + j]? = some x := ⟨_, List.getElem?_eq_getElem (by omega)⟩
    have hSx : S.l[k + 1 + j]? = some x := by rw [W.at_ _ x hx, if_neg (by omega)]
    have hfl : (!x.store && x.read && early S.l (k + 1 + j) k x.at_ x.size.toNat) = fl L k (k + 1 + j) x := by
      unfold fl
      rw [early_ext fun b => W.giver b _]
    unfold whStep
    rw [hSx]
    dsimp only
    rw [hfl]
    by_cases hc : fl L k (k + 1 + j) x = true
    · rw [if_pos hc]
      refine ⟨by dsimp only; rw [List.length_set]; exact W.len, fun i y hy => ?_, ?_, fun t => ?_⟩
      · dsimp only
        by_cases hi : i = k + 1 + j
        · subst hi
          rw [hx] at hy
          injection hy with hy
          subst hy
          rw [List.getElem?_set, if_pos rfl, if_pos (by rw [W.len]; omega), if_pos ⟨by omega, by omega, hc⟩]
        · rw [List.getElem?_set, if_neg (fun e => hi e.symm), W.at_ i y hy]
          by_cases h2 : k < i ∧ i < k + 1 + j ∧ fl L k i y = true
          · rw [if_pos h2, if_pos ⟨h2.1, by omega, h2.2.2⟩]
          · rw [if_neg h2, if_neg (fun h3 => h2 ⟨h3.1, by omega, h3.2.2⟩)]
      · dsimp only
        rw [List.pairwise_append]
        refine ⟨W.up, List.pairwise_singleton _ _, fun t h1 u h2 => ?_⟩
        obtain ⟨i, y, _, _, hi, _, rfl⟩ := (W.out t).1 h1
        rw [List.mem_singleton.1 h2, ht _ x hx]
        omega
      · dsimp only
        rw [List.mem_append, W.out, List.mem_singleton]
        constructor
        · rintro (⟨i, y, h1, h2, h3, h4, h5⟩ | h1)
          · exact ⟨i, y, h1, h2, by omega, h4, h5⟩
          · exact ⟨k + 1 + j, x, hx, by omega, by omega, hc, by rw [h1, ht _ x hx]⟩
        · rintro ⟨i, y, h1, h2, h3, h4, h5⟩
          by_cases hi : i = k + 1 + j
          · subst hi
            exact .inr (by rw [h5, ht _ x hx])
          · exact .inl ⟨i, y, h1, h2, by omega, h4, h5⟩
    · rw [if_neg hc]
      refine ⟨W.len, fun i y hy => ?_, W.up, fun t => ?_⟩
      · rw [W.at_ i y hy]
        by_cases h2 : k < i ∧ i < k + 1 + j ∧ fl L k i y = true
        · rw [if_pos h2, if_pos ⟨h2.1, by omega, h2.2.2⟩]
        · rw [if_neg h2, if_neg (fun h3 => ?_)]
          by_cases hi : i = k + 1 + j
          · subst hi
            rw [hx] at hy
            injection hy with hy
            subst hy
            exact hc h3.2.2
          · exact h2 ⟨h3.1, by omega, h3.2.2⟩
      · rw [W.out]
        constructor
        · rintro ⟨i, y, h1, h2, h3, h4, h5⟩
          exact ⟨i, y, h1, h2, by omega, h4, h5⟩
        · rintro ⟨i, y, h1, h2, h3, h4, h5⟩
          by_cases hi : i = k + 1 + j
          · subst hi
            rw [hx] at h1
            injection h1 with h1
            subst h1
            exact absurd h4 hc
          · exact ⟨i, y, h1, h2, by omega, h4, h5⟩
def clr (has : Nat → Bool) (out : List Int) : Nat → Bool := fun i => if (i : Int) ∈ out then false else has i
/-- What Where does, and what it answers. -/
structure WR (Y : Nat → OpS) (n : Nat) (s : PS) (k : Nat) (r : (List Int × Bool) × Qs) : Prop where
  inv : OI Y n { s with q := r.2, has := clr s.has r.1.1 }
  up : r.1.1.Pairwise (· < ·)
  out : ∀ t ∈ r.1.1, ∃ i, t = ((s.first + i : Nat) : Int) ∧ k < i ∧ s.first + i < s.next ∧ (Y (s.first + i)).store = false ∧ s.has (s.first + i) = true
  placed : ∀ e, r.2.l[k]? = some e → e.placed = true
theorem OI.where (h : OI Y n s) (hI : QI s.q) (hY : ∀ i, i < n → YOk (Y i)) {k : Nat} (hk : k < s.q.l.length) :
    WR Y n s k (whereQ s.q ((s.first + k : Nat) : Int) (4096 + (Y (s.first + k)).at_) (Y (s.first + k)).size) := by
  obtain ⟨e, he⟩ : ∃ e, s.q.l[k]? = some e := ⟨_, List.getElem?_eq_getElem hk⟩
  have hE := h.ent k e he
  have hlen := h.len
  have hfn := h.fn
  have hy := hY (s.first + k) (by omega)
  have ho := hI.ok e (List.mem_of_getElem? he)
  obtain ⟨A, hA⟩ : ∃ A, 4096 + (Y (s.first + k)).at_ = A := ⟨_, rfl⟩
  obtain ⟨Z, hZ⟩ : ∃ Z, (Y (s.first + k)).size = Z := ⟨_, rfl⟩
  have hok : okSize Z = true := okSize_iff.2 (by rw [← hZ]; exact hy.sz)
  have hmod : A % Z = 0 := by
    rw [← hA, ← hZ]
    have := hy.al
    rcases hy.sz with h | h | h | h <;> rw [h] at this ⊢ <;> omega
  rw [hA, hZ]
  unfold whereQ
  have hwh : whN s.q.l ((s.first + k : Nat) : Int) A Z = if e.placed then none else some (k, e) := by
    unfold whN
    rw [h.find hk]
    dsimp only [Option.bind_some]
    rw [he]
    dsimp only [Option.bind_some]
    rw [hok, hmod]
    cases e.placed <;> rfl
  rw [hwh]
  cases hp : e.placed with
  | true =>
    rw [if_pos rfl]
    dsimp only
    refine ⟨?_, .nil, fun t ht => by simp at ht, fun e' he' => ?_⟩
    · have : clr s.has [] = s.has := by funext i; unfold clr; simp
      rw [this]
      exact h
    · dsimp only at he'
      rw [he] at he'
      injection he' with he'
      rw [← he']; exact hp
  | false =>
    rw [if_neg (by simp)]
    dsimp only
    have hrd : e.read = false := by
      cases hr : e.read with
      | false => rfl
      | true => have := (ho.read hr).2; rw [hp] at this; cases this
    have hent1 : ∀ j e', (s.q.l.set k (placeE e A Z))[j]? = some e' → EOk Y (s.first + j) e' := by
      intro j e' hj
      rcases set_get hj with ⟨rfl, rfl⟩ | ⟨_, h1⟩
      · exact ⟨hE.tag, hE.store, fun _ => ⟨by rw [← hA]; rfl, by rw [← hZ]; rfl⟩, hE.dt⟩
      · exact h.ent j e' h1
    have hgk : ∀ a, gv s.q.l a k = false := by
      intro a
      unfold gv
      rw [he]
      dsimp only
      unfold Ent.has
      rw [hp]
      simp
    have hgi : ∀ a i, i ≠ k → gv (s.q.l.set k (placeE e A Z)) a i = gv s.q.l a i := by
      intro a i hik
      unfold gv
      rw [List.getElem?_set, if_neg (fun e => hik e.symm)]
    cases hs : e.store with
    | false =>
      simp only [Bool.false_eq_true, if_false]
      have hclr : clr s.has [] = s.has := by funext i; unfold clr; simp
      have hgk1 : ∀ a, gv (s.q.l.set k (placeE e A Z)) a k = false := by
        intro a
        unfold gv
        rw [List.getElem?_set, if_pos rfl, if_pos hk]
        dsimp only
        rw [show (placeE e A Z).store = false from hs]
        simp
      refine ⟨?_, .nil, fun t ht => by simp at ht, fun e' he' => ?_⟩
      · rw [hclr]
        refine h.turn (List.length_set ..) hent1 (fun j e' hj hs' => ?_) h.hasN (fun j e' hj hr => ?_)
        · rcases set_get hj with ⟨rfl, rfl⟩ | ⟨_, h1⟩
          · rw [h.has _ e he hs]; rfl
          · exact h.has j e' h1 hs'
        · rcases set_get hj with ⟨rfl, rfl⟩ | ⟨_, h1⟩
          · rw [show (placeE e A Z).read = e.read from rfl, hrd] at hr; cases hr
          · refine ⟨e', h1, hr, fun b hb => ?_⟩
            have hg : giver (s.q.l.set k (placeE e A Z)) ((4096 + ((Y (s.first + j)).at_.toNat + b) : Nat) : Int) j = giver s.q.l ((4096 + ((Y (s.first + j)).at_.toNat + b) : Nat) : Int) j := giver_ext fun i _ => by
              by_cases hik : i = k
              · rw [hik, hgk, hgk1]
              · exact hgi _ i hik
            have := src_same (m := s.m) hg (fun g t hgg ht => by
              have hgk2 : g ≠ k := fun e1 => by have := (giver_lt hgg).2; rw [e1, hgk] at this; cases this
              exact ⟨t, by rw [List.getElem?_set, if_neg (fun e => hgk2 e.symm)]; exact ht, rfl, rfl, rfl⟩)
            exact ⟨this.1, this.2 ((h.got j e' h1 hr).2 b hb)⟩
      · dsimp only at he'
        rcases set_get he' with ⟨_, rfl⟩ | ⟨h1, _⟩
        · rfl
        · exact absurd rfl h1
    | true =>
      simp only [if_true]
      have hL : (s.q.l.set k (placeE e A Z)).length = s.q.l.length := List.length_set ..
      have hS := whLoop_wl (L := s.q.l.set k (placeE e A Z)) (f := s.first) (k := k) (pc := e.pc) (hb := s.q.h) (fun i x hx => (hent1 i x hx).tag) (s.q.l.length - (k + 1)) (by omega)
      unfold whS
      obtain ⟨S, hSe⟩ : ∃ S, whLoop k e.pc ⟨s.q.l.set k (placeE e A Z), s.q.h, []⟩ (k + 1) (s.q.l.length - (k + 1)) = S := ⟨_, rfl⟩
      rw [hSe] at hS ⊢
      clear hSe
      have hlk : k + 1 + (s.q.l.length - (k + 1)) = s.q.l.length := by omega
      have hback : ∀ j e', S.l[j]? = some e' → ∃ x, (s.q.l.set k (placeE e A Z))[j]? = some x ∧ e' = (if k < j ∧ j < s.q.l.length ∧ fl (s.q.l.set k (placeE e A Z)) k j x = true then { x with read := false } else x) := by
        intro j e' hj
        have hjl := get_lt hj
        rw [hS.len, hL] at hjl
        obtain ⟨x, hx⟩ : ∃ x, (s.q.l.set k (placeE e A Z))[j]? = some x := ⟨_, List.getElem?_eq_getElem (by rw [hL]; exact hjl)⟩
        have := hS.at_ j x hx
        rw [hj, hlk] at this
        injection this with this
        exact ⟨x, hx, this⟩
      refine ⟨?_, hS.up, fun t ht => ?_, fun e' he' => ?_⟩
      · refine h.turn (by rw [hS.len, hL]) (fun j e' hj => ?_) (fun j e' hj hs' => ?_) (fun i hi => ?_) (fun j e' hj hr => ?_)
        · obtain ⟨x, hx, rfl⟩ := hback j e' hj
          have := hent1 j x hx
          split
          · exact ⟨this.tag, this.store, this.pl, this.dt⟩
          · exact this
        · obtain ⟨x, hx, rfl⟩ := hback j e' hj
          have hxs : x.store = false := by rw [← hs']; split <;> rfl
          have hl : s.q.l[j]? = some x := by
            rcases set_get hx with ⟨rfl, rfl⟩ | ⟨_, h1⟩
            · rw [show (placeE e A Z).store = e.store from rfl, hs] at hxs; cases hxs
            · exact h1
          unfold clr
          by_cases hf : k < j ∧ j < s.q.l.length ∧ fl (s.q.l.set k (placeE e A Z)) k j x = true
          · rw [if_pos hf, if_pos ((hS.out _).2 ⟨j, x, hx, hf.1, by omega, hf.2.2, rfl⟩)]
          · rw [if_neg hf, if_neg (fun hm => ?_)]
            · exact h.has j x hl hxs
            · obtain ⟨i, y, h1, h2, h3, h4, h5⟩ := (hS.out _).1 hm
              obtain rfl : i = j := by omega
              rw [hx] at h1
              injection h1 with h1
              subst h1
              exact hf ⟨h2, by omega, h4⟩
        · unfold clr
          rw [h.hasN i hi]
          split <;> rfl
        · obtain ⟨x, hx, rfl⟩ := hback j e' hj
          by_cases hf : k < j ∧ j < s.q.l.length ∧ fl (s.q.l.set k (placeE e A Z)) k j x = true
          · rw [if_pos hf] at hr; cases hr
          · rw [if_neg hf] at hr hj
            have hjk : j ≠ k := fun e1 => by
              subst e1
              rcases set_get hx with ⟨_, rfl⟩ | ⟨h1, _⟩
              · rw [show (placeE e A Z).read = e.read from rfl, hrd] at hr; cases hr
              · exact absurd rfl h1
            have hl : s.q.l[j]? = some x := by
              rcases set_get hx with ⟨rfl, _⟩ | ⟨_, h1⟩
              · exact absurd rfl hjk
              · exact h1
            have hjl := get_lt hl
            have hxo := hI.ok x (List.mem_of_getElem? hl)
            obtain ⟨hxs, hxp⟩ := hxo.read hr
            obtain ⟨pa, pz⟩ := (h.ent j x hl).pl hxp
            have hyj := hY (s.first + j) (by omega)
            refine ⟨x, hl, hr, fun b hb => ?_⟩
            have haz : wrapA x.at_ b = ((4096 + ((Y (s.first + j)).at_.toNat + b) : Nat) : Int) := by
              have h1 := hyj.a0
              have h2 := hyj.a1
              have h3 := hyj.sz
              rw [wrapA_small (by omega) (by omega), pa]
              omega
            have hgne : giver (s.q.l.set k (placeE e A Z)) ((4096 + ((Y (s.first + j)).at_.toNat + b) : Nat) : Int) j ≠ some k := by
              by_cases hkj : k < j
              · have hfe : early (s.q.l.set k (placeE e A Z)) j k x.at_ x.size.toNat = false := by
                  have : fl (s.q.l.set k (placeE e A Z)) k j x ≠ true := fun h2 => hf ⟨hkj, hjl, h2⟩
                  unfold fl at this
                  rw [hxs, hr] at this
                  simpa using this
                have := early_iff.1 hfe b (by rw [pz]; exact hb)
                rw [haz] at this
                exact this
              · intro h2
                have := (giver_lt h2).1
                omega
            have hg1 := giver_not (l := s.q.l) (l' := s.q.l.set k (placeE e A Z)) (hgk _) (fun i _ hik => hgi _ i hik) hgne
            have hg2 : giver S.l ((4096 + ((Y (s.first + j)).at_.toNat + b) : Nat) : Int) j = giver s.q.l ((4096 + ((Y (s.first + j)).at_.toNat + b) : Nat) : Int) j := (hS.giver _ _).trans hg1
            have := src_same (m := s.m) hg2 (fun g t hgg ht => by
              have hgk2 : g ≠ k := fun e1 => by have := (giver_lt hgg).2; rw [e1, hgk] at this; cases this
              have hx2 : (s.q.l.set k (placeE e A Z))[g]? = some t := by rw [List.getElem?_set, if_neg (fun e => hgk2 e.symm)]; exact ht
              have := hS.at_ g t hx2
              exact ⟨_, this, by split <;> rfl, by split <;> rfl, by split <;> rfl⟩)
            exact ⟨this.1, this.2 ((h.got j x hl hr).2 b hb)⟩
      · obtain ⟨i, x, hx, hki, hil, hf, rfl⟩ := (hS.out t).1 ht
        unfold fl at hf
        simp only [Bool.and_eq_true, Bool.not_eq_true'] at hf
        have hl : s.q.l[i]? = some x := by
          rcases set_get hx with ⟨rfl, _⟩ | ⟨_, h1⟩
          · omega
          · exact h1
        exact ⟨i, rfl, hki, by omega, by rw [← (h.ent i x hl).store]; exact hf.1.1, by rw [h.has i x hl hf.1.1]; exact hf.1.2⟩
      · obtain ⟨x, hx, rfl⟩ := hback k e' he'
        rw [if_neg (by omega)]
        rcases set_get hx with ⟨_, rfl⟩ | ⟨h1, _⟩
        · rfl
        · exact absurd rfl h1
/-! ### the first one leaves -/
theorem gv_cons (e : Ent) (t : List Ent) (a : Int) (i : Nat) : gv (e :: t) a (i + 1) = gv t a i := rfl
theorem giver_cons (e : Ent) (t : List Ent) (a : Int) : ∀ j, giver (e :: t) a (j + 1) = match giver t a j with | some g => some (g + 1) | none => if e.store && e.has a then some 0 else none := by
  intro j
  induction j with
  | zero => rw [giver_gv]; rfl
  | succ j ih =>
    have h2 := giver_gv t a j
    rw [giver_gv, gv_cons, h2]
    by_cases h : gv t a j = true
    · rw [if_pos h, if_pos h]
    · rw [if_neg h, if_neg h]
      exact ih
theorem OI.pop (h : OI Y n s) (hI : QI s.q) (hY : ∀ i, i < n → YOk (Y i)) {e : Ent} {t : List Ent} (hl : s.q.l = e :: t) (hr : e.ready = true) (hb : Hb) :
    OI Y n { s with q := ⟨t, hb⟩, first := s.first + 1, m := if (Y s.first).store then wrM s.m (Y s.first).at_.toNat (Y s.first).size.toNat (Y s.first).v else s.m } ∧
    ((Y s.first).store = false → s.has s.first = true ∧ s.got s.first = rdM (memP Y s.first) (Y s.first).at_.toNat (Y s.first).size.toNat) := by
  have hlen := h.len
  have hfn := h.fn
  rw [hl] at hlen
  simp at hlen
  have h0 : s.q.l[0]? = some e := by rw [hl]; rfl
  have hE := h.ent 0 e h0
  rw [Nat.add_zero] at hE
  have hat : ∀ j x, t[j]? = some x → s.q.l[j + 1]? = some x := fun j x hx => by rw [hl]; exact hx
  have hidx : ∀ j, s.first + 1 + j = s.first + (j + 1) := fun j => by omega
  have ho := hI.ok e (List.mem_of_getElem? h0)
  refine ⟨⟨⟨by dsimp only; omega, hfn.2⟩, by dsimp only; omega, fun j x hx => ?_, fun j x hx hs => ?_, h.hasN, ?_, fun j x hx hrd => ?_⟩, fun hst => ?_⟩
  · dsimp only; rw [hidx]; exact h.ent (j + 1) x (hat j x hx)
  · dsimp only; rw [hidx]; exact h.has (j + 1) x (hat j x hx) hs
  · dsimp only
    rw [h.mem]
    rfl
  · dsimp only
    rw [hidx]
    obtain ⟨g1, g2⟩ := h.got (j + 1) x (hat j x hx) hrd
    have key : ∀ a, a < 9223372036854771000 → src t (if (Y s.first).store then wrM s.m (Y s.first).at_.toNat (Y s.first).size.toNat (Y s.first).v else s.m) j a = src s.q.l s.m (j + 1) a ∧ (dOK s.q.l (j + 1) a → dOK t j a) := by
      intro a ha
      have hc := giver_cons e t ((4096 + a : Nat) : Int) j
      rw [← hl] at hc
      refine ⟨?_, fun hd g u hg hu => ?_⟩
      · unfold src
        rw [hc]
        cases hg : giver t ((4096 + a : Nat) : Int) j with
        | some g =>
          dsimp only
          rw [hl]
          rfl
        | none =>
          dsimp only
          cases hs : e.store with
          | false =>
            rw [← hE.store, hs]
            simp
          | true =>
            rw [← hE.store, hs]
            simp only [Bool.true_and, if_true]
            unfold Ent.ready at hr
            rw [hs] at hr
            simp only [if_true, Bool.and_eq_true] at hr
            obtain ⟨pa, pz⟩ := hE.pl hr.1
            have hv := hE.dt hr.2
            have hy := hY s.first (by omega)
            have y0 := hy.a0
            have y1 := hy.a1
            have hz : 0 < (Y s.first).size ∧ (Y s.first).size ≤ 8 := by rcases hy.sz with h | h | h | h <;> omega
            rw [has_iff hr.1 (by omega) (by omega) (by omega) (by omega) (by omega), pa, pz]
            unfold wrM
            by_cases hin : (Y s.first).at_.toNat ≤ a ∧ a < (Y s.first).at_.toNat + (Y s.first).size.toNat
            · rw [if_pos hin, if_pos (by rw [decide_eq_true_iff]; omega)]
              dsimp only
              rw [h0]
              dsimp only
              rw [hv, pa, show 4096 + a - (4096 + (Y s.first).at_).toNat = a - (Y s.first).at_.toNat by omega]
            · rw [if_neg hin, if_neg (by rw [decide_eq_true_iff]; omega)]
      · refine hd (g + 1) u ?_ (by rw [hl]; exact hu)
        rw [hc, hg]
    have hj : j < t.length := get_lt hx
    have hy := hY (s.first + (j + 1)) (by omega)
    have hsm : ∀ b, b < (Y (s.first + (j + 1))).size.toNat → (Y (s.first + (j + 1))).at_.toNat + b < 9223372036854771000 := fun b hb => by
      have := hy.a0
      have := hy.a1
      omega
    exact ⟨by rw [g1]; exact rdM_ext fun b hb => ((key _ (hsm b hb)).1).symm, fun b hb2 => (key _ (hsm b hb2)).2 (g2 b hb2)⟩
  · have hs : e.store = false := by rw [hE.store]; exact hst
    unfold Ent.ready at hr
    rw [hs] at hr
    simp only [Bool.false_eq_true, if_false] at hr
    have h1 := h.has 0 e h0 hs
    rw [Nat.add_zero] at h1
    have h2 := (h.got 0 e h0 hr).1
    rw [Nat.add_zero] at h2
    refine ⟨by rw [h1]; exact hr, ?_⟩
    rw [h2, ← h.mem]
    rfl
/-! ### what a load gets -/
def kM (l : List Ent) (k : Nat) : Nat → Int := fun a => if (giver l ((4096 + a : Nat) : Int) k).isSome then 1 else 0
def bM (l : List Ent) (k : Nat) : Nat → Int := fun a => if (giver l ((4096 + a : Nat) : Int) k).isSome then src l (fun _ => 0) k a else 0
theorem src_bm {l : List Ent} {m : Nat → Int} (hm : BM m) (k : Nat) : BM (src l m k) := by
  intro a
  unfold src
  split
  · exact hm a
  · split
    · omega
    · decide
theorem bM_bm (l : List Ent) (k : Nat) : BM (bM l k) := by
  intro a
  unfold bM
  split
  · exact src_bm (fun _ => by decide) k a
  · decide
theorem got_val {l : List Ent} (hok : ∀ e ∈ l, e.ok ∧ (e.placed = true → 4096 ≤ e.at_ ∧ e.at_ + e.size ≤ 8192)) {e : Ent} {k : Nat} {w0 : Bool} {at0 : Nat} (ha : e.at_ = 4096 + at0) : ∀ i : Nat, at0 + i ≤ 64 → (gotN l e k w0 i).wait = false →
    w0 = false ∧ gotN l e k w0 i = ⟨false, wantN (kM l k) at0 i, rdM (bM l k) at0 i⟩ ∧ ∀ b, b < i → dOK l k (at0 + b) := by
  intro i
  induction i with
  | zero => intro _ h; exact ⟨h, by unfold gotN; rw [show w0 = false from h]; rfl, fun b hb => by omega⟩
  | succ i ih =>
    intro hi hw
    rw [gotN_up] at hw ⊢
    have haz : wrapA e.at_ i = ((4096 + (at0 + i) : Nat) : Int) := by
      rw [wrapA_small (by omega) (by omega), ha]
      omega
    unfold gotStep at hw ⊢
    rw [haz] at hw ⊢
    cases hg : giver l ((4096 + (at0 + i) : Nat) : Int) k with
    | none =>
      rw [hg] at hw
      dsimp only at hw ⊢
      obtain ⟨h1, h2, h3⟩ := ih (by omega) hw
      refine ⟨h1, ?_, fun b hb => ?_⟩
      · rw [h2, wantN_succ, rdM_succ]
        unfold kM bM
        rw [hg]
        simp
      · by_cases hbi : b = i
        · subst hbi
          intro g s hgg _
          rw [hg] at hgg; cases hgg
        · exact h3 b (by omega)
    | some g =>
      rw [hg] at hw
      dsimp only at hw ⊢
      obtain ⟨hgl, hgv⟩ := giver_lt hg
      unfold gv at hgv
      cases hs : l[g]? with
      | none => rw [hs] at hgv; cases hgv
      | some t =>
        rw [hs] at hw hgv
        dsimp only at hw hgv ⊢
        simp only [Bool.or_eq_false_iff, Bool.not_eq_false'] at hw
        obtain ⟨h1, h2, h3⟩ := ih (by omega) hw.1
        refine ⟨h1, ?_, fun b hb => ?_⟩
        · rw [h2, wantN_succ, rdM_succ, hw.2]
          obtain ⟨hto, htp⟩ := hok t (List.mem_of_getElem? hs)
          simp only [Bool.and_eq_true] at hgv
          have hpl : t.placed = true := by
            have := hgv.2
            unfold Ent.has at this
            simp only [Bool.and_eq_true] at this
            exact this.1
          obtain ⟨p0, p1⟩ := htp hpl
          have hsz : 0 < t.size ∧ t.size ≤ 8 := by
            rcases hto.size with ⟨h, _⟩ | ⟨_, h, _⟩
            · rw [hpl] at h; cases h
            · rcases h with h | h | h | h <;> omega
          have hin := hgv.2
          rw [has_iff hpl (by omega) (by omega) hsz (by omega) (by omega), decide_eq_true_iff] at hin
          have hsh : shD e t i = 4096 + (at0 + i) - t.at_.toNat := by
            unfold shD
            rw [haz]
            omega
          have hbm : bM l k (at0 + i) = byteG e t i := by
            unfold bM src
            rw [hg]
            simp only [Option.isSome_some, if_true]
            rw [hs]
            unfold byteG
            rw [hsh]
          have hkm : kM l k (at0 + i) = 1 := by
            unfold kM
            rw [hg]
            rfl
          rw [hbm, hkm]
          rfl
        · by_cases hbi : b = i
          · subst hbi
            intro g' s' hgg hs'
            rw [hg] at hgg
            injection hgg with hgg
            subst hgg
            rw [hs] at hs'
            injection hs' with hs'
            rw [← hs']
            exact hw.2
          · exact h3 b (by omega)
theorem mix_end {l : List Ent} {m : Nat → Int} {k a z : Nat} : rdM (mixM (kM l k) (bM l k) m a z) a z = rdM (src l m k) a z := rdM_ext fun b hb => by
  unfold mixM kM bM
  cases hg : giver l ((4096 + (a + b) : Nat) : Int) k with
  | none =>
    simp only [Option.isSome_none, Bool.false_eq_true, if_false]
    rw [if_neg (by simp)]
    unfold src
    rw [hg]
  | some g =>
    simp only [Option.isSome_some, if_true]
    rw [if_pos ⟨by omega, by decide⟩]
    unfold src
    rw [hg]
end
end Go.Proofs.Ytdmkgomcomcfhaa
