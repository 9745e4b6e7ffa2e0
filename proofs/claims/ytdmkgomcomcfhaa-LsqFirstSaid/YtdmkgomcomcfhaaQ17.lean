/- Layer 23: calls at an entry in the middle of a queue; what eight known stores give. -/
import Derived.Test.YtdmkgomcomcfhaaQ15
import Derived.Test.YtdmkgomcomcfhaaQ16
namespace Go.Proofs.Ytdmkgomcomcfhaa
open Go.RowKit

structure YOk (y : OpS) : Prop where
  sz : y.size = 1 ∨ y.size = 2 ∨ y.size = 4 ∨ y.size = 8
  a0 : 0 ≤ y.at_
  a1 : y.at_ + y.size ≤ 64
  al : y.at_ % y.size = 0
  v : 0 ≤ y.v ∧ y.v < 18446744073709551616
  pc : 0 ≤ y.pc ∧ y.pc < 18446744073709551616
theorem right_ok {x : OpS} (hx : x.ok) : YOk (rightO x) := by
  have b1 := Int.tmod_lt_of_pos x.size (b := 4) (by decide)
  have b2 := Int.lt_tmod_of_pos x.size (b := 4) (by decide)
  have c1 := Int.tmod_lt_of_pos x.at_ (b := 64) (by decide)
  have c2 := Int.lt_tmod_of_pos x.at_ (b := 64) (by decide)
  have hz : rSize x = 1 ∨ rSize x = 2 ∨ rSize x = 4 ∨ rSize x = 8 := by
    unfold rSize
    have : (x.size.tmod 4).natAbs = 0 ∨ (x.size.tmod 4).natAbs = 1 ∨ (x.size.tmod 4).natAbs = 2 ∨ (x.size.tmod 4).natAbs = 3 := by omega
    rcases this with h | h | h | h <;> rw [h] <;> decide
  obtain ⟨A, hA⟩ : ∃ A : Int, ((x.at_.tmod 64).natAbs : Int) = A := ⟨_, rfl⟩
  have hA0 : 0 ≤ A ∧ A < 64 := by omega
  refine ⟨hz, ?_, ?_, ?_, hx.v, hx.pc⟩ <;> (unfold rightO; dsimp only; rw [hA]; rcases hz with h | h | h | h <;> rw [h] <;> omega)
theorem set_mid {α : Type} (l : List α) (e e' : α) (r : List α) : (l ++ e :: r).set l.length e' = l ++ e' :: r := by
  induction l with
  | nil => rfl
  | cons a l ih => simp [ih]
theorem get_mid {α : Type} (l : List α) (e : α) (r : List α) : (l ++ e :: r)[l.length]? = some e := by simp
theorem findN_mid {l r : List Ent} {e : Ent} (h : ∀ x ∈ l, x.tag ≠ e.tag) : findN (l ++ e :: r) e.tag = some l.length :=
  findN_at (get_mid l e r) rfl fun j e' hj he => h e' (by rw [List.getElem?_append_left hj] at he; exact List.mem_of_getElem? he)
theorem findN_no {l : List Ent} {t : Int} (h : ∀ x ∈ l, x.tag ≠ t) : findN l t = none := findN_none fun j e' hj he => h e' (List.mem_of_getElem? he)
theorem mayCome_ok {l : List Ent} {t : Int} {st : Bool} (h : ∀ x ∈ l, x.tag < t) (hn : if st then nSt l < 8 else nLd l < 8) : mayCome l t st = true := by
  unfold mayCome lastTag
  have h2 : (if st then decide (nSt l < 8) else decide (nLd l < 8)) = true := by cases st <;> simpa using hn
  rw [h2, Bool.and_true]
  cases hl : l.getLast? with
  | none => rfl
  | some x => exact decide_eq_true (h x (List.mem_of_getLast? hl))
theorem come_ok {q : Qs} {e : Ent} (h : ∀ x ∈ q.l, x.tag < e.tag) (hn : if e.store then nSt q.l < 8 else nLd q.l < 8) : comeQ q e = ⟨q.l ++ [e], q.h⟩ := by
  unfold comeQ
  rw [mayCome_ok h hn]
  rfl
theorem data_mid {l r : List Ent} {e : Ent} {h : Hb} (ht : ∀ x ∈ l, x.tag ≠ e.tag) (hs : e.store = true) (hd : e.data = false) (v : Int) :
    dataN (l ++ e :: r) e.tag = some l.length ∧ dataQ ⟨l ++ e :: r, h⟩ e.tag v = ⟨l ++ { e with data := true, v := v } :: r, h⟩ := by
  have h1 : dataN (l ++ e :: r) e.tag = some l.length := by
    unfold dataN
    rw [findN_mid ht]
    dsimp only [Option.bind_some]
    rw [get_mid]
    simp [hs, hd]
  refine ⟨h1, ?_⟩
  unfold dataQ
  dsimp only
  rw [h1]
  dsimp only
  rw [modify_set _ (get_mid l e r), set_mid]
theorem whLoop_unread {n : Nat} {pc : Int} {s : WS} (k0 : Nat) (h : ∀ k x, k0 ≤ k → s.l[k]? = some x → x.read = false) : ∀ j, whLoop n pc s k0 j = s := by
  intro j
  induction j with
  | zero => rfl
  | succ j ih =>
    unfold whLoop
    rw [ih]
    unfold whStep
    split
    · rename_i x hx
      rw [h _ x (by omega) hx]
      simp
    · rfl
theorem where_mid {l r : List Ent} {e : Ent} {h : Hb} (ht : ∀ x ∈ l, x.tag ≠ e.tag) (hp : e.placed = false) {a sz : Int} (hs : okSize sz = true) (hm : a % sz = 0) (hr : e.store = true → ∀ x ∈ r, x.read = false) :
    whereQ ⟨l ++ e :: r, h⟩ e.tag a sz = (([], true), ⟨l ++ placeE e a sz :: r, h⟩) := by
  have h1 : whN (l ++ e :: r) e.tag a sz = some (l.length, e) := by
    unfold whN
    rw [findN_mid ht]
    dsimp only [Option.bind_some]
    rw [get_mid]
    simp [hp, hs, hm]
  unfold whereQ
  dsimp only
  rw [h1]
  dsimp only
  rw [set_mid]
  cases hst : e.store with
  | false => rfl
  | true =>
    rw [if_pos rfl]
    unfold whS
    dsimp only
    rw [set_mid]
    rw [whLoop_unread _ (fun k x hk hx => ?_)]
    dsimp only at hx
    rw [List.getElem?_append_right (by omega), show k - l.length = (k - (l.length + 1)) + 1 by omega, List.getElem?_cons_succ] at hx
    exact hr hst x (List.mem_of_getElem? hx)
theorem where_no {q : Qs} {t a sz : Int} (h : ∀ x ∈ q.l, x.tag ≠ t) : whereQ q t a sz = (([], false), q) := by
  unfold whereQ whN
  rw [findN_no h]
  rfl
theorem look_mid {l r : List Ent} {e : Ent} {h : Hb} (ht : ∀ x ∈ l, x.tag ≠ e.tag) (hs : e.store = false) (hp : e.placed = true) :
    lookQ ⟨l ++ e :: r, h⟩ e.tag = (lookG ⟨l ++ e :: r, h⟩ l.length e, true) := by
  unfold lookQ
  dsimp only
  rw [findN_mid ht]
  dsimp only
  rw [get_mid]
  simp [hs, hp]
theorem done_mid {l r : List Ent} {e : Ent} {h : Hb} {G1 G2 : Int} (ht : ∀ x ∈ l, x.tag ≠ e.tag) (hl : lookQ ⟨l ++ e :: r, h⟩ e.tag = (⟨false, G1, G2⟩, true)) (hr : e.read = false) :
    doneQ ⟨l ++ e :: r, h⟩ e.tag = (true, ⟨l ++ { e with read := true } :: r, h⟩) := by
  unfold doneQ
  rw [hl]
  dsimp only
  rw [findN_mid ht]
  dsimp only
  rw [get_mid]
  simp [hr, set_mid]
/-- The byte's place. -/
theorem has_iff {e : Ent} (hp : e.placed = true) {a : Int} (h0 : 0 ≤ e.at_) (h1 : e.at_ < 9223372036854775808) (hs : 0 < e.size ∧ e.size ≤ 8) (a0 : 0 ≤ a) (a1 : a < 9223372036854775808) : e.has a = decide (e.at_ ≤ a ∧ a < e.at_ + e.size) := by
  unfold Ent.has
  rw [hp]
  simp only [Bool.true_and]
  by_cases h : e.at_ ≤ a
  · rw [decide_eq_decide]
    omega
  · rw [decide_eq_false (by omega), decide_eq_false (by omega)]
theorem giver_congr {l l' : List Ent} {a : Int} : ∀ {n : Nat}, (∀ j, j < n → l[j]? = l'[j]?) → giver l a n = giver l' a n := by
  intro n
  induction n with
  | zero => intro _; rfl
  | succ n ih =>
    intro h
    unfold giver
    rw [h n (by omega), ih fun j hj => h j (by omega)]

/-! ### eight stores -/
def sE (j : Nat) (y : OpS) : Ent := ⟨j, y.pc, true, true, true, false, y.at_, y.size, y.v⟩
def entsB (ys : List OpS) : List Ent := ys.mapIdx sE
def memB (ys : List OpS) : Nat → Int := ys.foldl (fun M y => wrM M y.at_.toNat y.size.toNat y.v) fun _ => 0
def maskB (ys : List OpS) : Nat → Int := ys.foldl (fun M y => wrM M y.at_.toNat y.size.toNat 18446744073709551615) fun _ => 0
theorem entsB_snoc (ys : List OpS) (y : OpS) : entsB (ys ++ [y]) = entsB ys ++ [sE ys.length y] := by unfold entsB; rw [List.mapIdx_concat]
theorem entsB_len (ys : List OpS) : (entsB ys).length = ys.length := by unfold entsB; simp
theorem memB_snoc (ys : List OpS) (y : OpS) : memB (ys ++ [y]) = wrM (memB ys) y.at_.toNat y.size.toNat y.v := by unfold memB; rw [List.foldl_append]; rfl
theorem maskB_snoc (ys : List OpS) (y : OpS) : maskB (ys ++ [y]) = wrM (maskB ys) y.at_.toNat y.size.toNat 18446744073709551615 := by unfold maskB; rw [List.foldl_append]; rfl
theorem entsB_get {ys : List OpS} {n : Nat} {y : OpS} (h : ys[n]? = some y) : (entsB ys)[n]? = some (sE n y) := by unfold entsB; rw [List.getElem?_mapIdx, h]; rfl
theorem entsB_tag {ys : List OpS} : ∀ x ∈ entsB ys, x.tag < (ys.length : Int) ∧ x.store = true ∧ x.read = false ∧ x.placed = true := by
  intro x hx
  obtain ⟨j, hj⟩ := List.getElem?_of_mem hx
  have hjl : j < ys.length := by have := (List.getElem?_eq_some_iff.1 hj).1; rwa [entsB_len] at this
  rw [entsB_get (List.getElem?_eq_getElem hjl)] at hj
  injection hj with hj
  subst hj
  exact ⟨by show (j : Int) < _; omega, rfl, rfl, rfl⟩
theorem entsB_nSt (ys : List OpS) : nSt (entsB ys) = ys.length ∧ nLd (entsB ys) = 0 := by
  have h1 : nLd (entsB ys) = 0 := by
    unfold nLd
    rw [List.countP_eq_zero]
    intro x hx
    simp [(entsB_tag x hx).2.1]
  have := cnt (entsB ys)
  rw [entsB_len] at this
  omega
theorem take_up {α : Type} {l : List α} {n : Nat} {x : α} (h : l[n]? = some x) : l.take (n + 1) = l.take n ++ [x] := by
  rw [List.take_add_one, h]; rfl
theorem bytes_giver {ys : List OpS} (hy : ∀ y ∈ ys, YOk y) (r : List Ent) (a : Nat) (ha : a < 64) : ∀ n, n ≤ ys.length →
    match giver (entsB ys ++ r) (a : Int) n with
    | none => memB (ys.take n) a = 0 ∧ maskB (ys.take n) a = 0
    | some g => ∃ y, ys[g]? = some y ∧ y.at_ ≤ a ∧ (a : Int) < y.at_ + y.size ∧ memB (ys.take n) a = y.v / 2 ^ (8 * (a - y.at_.toNat)) % 256 ∧ maskB (ys.take n) a = 255 := by
  intro n
  induction n with
  | zero => intro _; exact ⟨rfl, rfl⟩
  | succ n ih =>
    intro hn
    have ih := ih (by omega)
    obtain ⟨y, hyn⟩ : ∃ y, ys[n]? = some y := ⟨_, List.getElem?_eq_getElem (by omega)⟩
    have hok := hy y (List.mem_of_getElem? hyn)
    have he : (entsB ys ++ r)[n]? = some (sE n y) := by rw [List.getElem?_append_left (by rw [entsB_len]; omega)]; exact entsB_get hyn
    have hsz : 0 < y.size ∧ y.size ≤ 8 := by rcases hok.sz with h | h | h | h <;> omega
    have h0 := hok.a0
    have h1 := hok.a1
    have hh : (sE n y).has (a : Int) = decide (y.at_ ≤ (a : Int) ∧ (a : Int) < y.at_ + y.size) := has_iff (e := sE n y) rfl h0 (by show y.at_ < _; omega) hsz (by omega) (by omega)
    rw [giver_at he, take_up hyn, memB_snoc, maskB_snoc, hh]
    show match (if true && _ then some n else _) with | none => _ | some g => _
    by_cases hc : y.at_ ≤ (a : Int) ∧ (a : Int) < y.at_ + y.size
    · rw [decide_eq_true hc, Bool.true_and, if_pos rfl]
      refine ⟨y, hyn, hc.1, hc.2, ?_, ?_⟩
      · unfold wrM
        rw [if_pos (by omega)]
      · unfold wrM
        rw [if_pos (by omega)]
        have : a - y.at_.toNat < 8 := by omega
        generalize a - y.at_.toNat = i at *
        have hi : i = 0 ∨ i = 1 ∨ i = 2 ∨ i = 3 ∨ i = 4 ∨ i = 5 ∨ i = 6 ∨ i = 7 := by omega
        rcases hi with rfl | rfl | rfl | rfl | rfl | rfl | rfl | rfl <;> decide
    · rw [decide_eq_false hc, Bool.true_and, if_neg (by simp)]
      have e1 : ∀ v, wrM (memB (List.take n ys)) y.at_.toNat y.size.toNat v a = memB (List.take n ys) a := fun v => by unfold wrM; rw [if_neg (by omega)]
      have e2 : ∀ v, wrM (maskB (List.take n ys)) y.at_.toNat y.size.toNat v a = maskB (List.take n ys) a := fun v => by unfold wrM; rw [if_neg (by omega)]
      rw [e1, e2]
      exact ih
def wantN (K : Nat → Int) (a : Nat) : Nat → Int
  | 0 => 0
  | i + 1 => wantN K a i + if 0 < K (a + i) then 2 ^ i else 0
theorem wantN_succ (K : Nat → Int) (a i : Nat) : wantN K a (i + 1) = wantN K a i + if 0 < K (a + i) then 2 ^ i else 0 := rfl
theorem rdM_succ (M : Nat → Int) (a i : Nat) : rdM M a (i + 1) = rdM M a i + M (a + i) * 2 ^ (8 * i) := rfl
theorem wantN_bd (K : Nat → Int) (a i : Nat) : 0 ≤ wantN K a i ∧ wantN K a i < 2 ^ i := by
  induction i with
  | zero => exact ⟨by simp [wantN], by simp [wantN]⟩
  | succ i ih =>
    have p := pow_pos i
    unfold wantN
    rw [pow1]
    split <;> omega
theorem wrapA_small {a : Int} {i : Nat} (h0 : 0 ≤ a) (h1 : a + i < 18446744073709551616) : wrapA a i = ((a.toNat + i : Nat) : Int) := by
  unfold wrapA
  rw [Int.emod_eq_of_lt (by omega) h1]
  omega
theorem bytes_got {ys : List OpS} (hy : ∀ y ∈ ys, YOk y) (e : Ent) (r : List Ent) (h0 : 0 ≤ e.at_) : ∀ i : Nat, e.at_ + i ≤ 64 →
    gotN (entsB ys ++ r) e ys.length false i = ⟨false, wantN (maskB ys) e.at_.toNat i, rdM (memB ys) e.at_.toNat i⟩ := by
  intro i
  induction i with
  | zero => intro _; rfl
  | succ i ih =>
    intro hi
    rw [gotN_up, ih (by omega)]
    unfold gotStep
    have hb := bytes_giver hy r (e.at_.toNat + i) (by omega) ys.length (Nat.le_refl _)
    rw [List.take_length] at hb
    rw [wrapA_small h0 (by omega)]
    split
    · rename_i hg
      rw [hg] at hb
      rw [wantN_succ, rdM_succ, hb.1, hb.2]
      simp
    · rename_i g hg
      rw [hg] at hb
      obtain ⟨y, hyg, c0, c1, m1, m2⟩ := hb
      have hgl : g < ys.length := (List.getElem?_eq_some_iff.1 hyg).1
      have he : (entsB ys ++ r)[g]? = some (sE g y) := by rw [List.getElem?_append_left (by rw [entsB_len]; omega)]; exact entsB_get hyg
      rw [he]
      dsimp only
      rw [wantN_succ, rdM_succ, m1, m2]
      have hsh : shD e (sE g y) i = e.at_.toNat + i - y.at_.toNat := by
        unfold shD
        rw [wrapA_small h0 (by omega)]
        show ((((e.at_.toNat + i : Nat) : Int) - y.at_) % 18446744073709551616).toNat = _
        have := (hy y (List.mem_of_getElem? hyg)).a0
        omega
      unfold byteG
      rw [hsh]
      simp [sE]
end Go.Proofs.Ytdmkgomcomcfhaa
