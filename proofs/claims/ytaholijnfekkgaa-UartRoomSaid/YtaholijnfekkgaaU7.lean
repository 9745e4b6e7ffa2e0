/- UartRoom: the walk. -/
import Derived.Test.YtaholijnfekkgaaU6
namespace Go.Proofs.Ytaholijnfekkgaa
open Go.RowKit

/-- A list of bytes that is read. -/
def BL (w : World) (v : Value) (n : Nat) (X : Nat → Int) : Prop :=
  (n = 0 ∧ ∃ A cap, v = .slice A 0 cap) ∨ ∃ ab ao cap, v = .slice (some ⟨ab, ao, none⟩) n cap ∧ (0 < n → ab < w.heap.size) ∧ n ≤ 140737488355328 ∧ ∀ i, i < n → w.cell? ⟨ab, ao + i, none⟩ = some (.int .u8 (X i)) ∧ 0 ≤ X i ∧ X i < 256

/-- What waits when the first k of X have come. -/
def qOf (X : Nat → Int) (k : Nat) : List Int := (List.range (min k 16)).map X
theorem qOf_len (X : Nat → Int) (k : Nat) : (qOf X k).length = min k 16 := by simp [qOf]
theorem qOf_succ (X : Nat → Int) (k : Nat) : (if 16 ≤ (qOf X k).length then qOf X k else qOf X k ++ [X k]) = qOf X (k + 1) := by
  rw [qOf_len]
  by_cases h : 16 ≤ k
  · rw [if_pos (by omega)]
    unfold qOf
    rw [show min k 16 = 16 by omega, show min (k + 1) 16 = 16 by omega]
  · rw [if_neg (by omega)]
    unfold qOf
    rw [show min k 16 = k by omega, show min (k + 1) 16 = k + 1 by omega, List.range_succ, List.map_append]
    rfl
theorem qOf_head (X : Nat → Int) (n i : Nat) : ((qOf X n).drop i).headD 0 = if i < n ∧ i < 16 then X i else 0 := by
  by_cases h : i < n ∧ i < 16
  · rw [if_pos h, List.headD_eq_head?_getD, List.head?_drop]
    have : i < min n 16 := by omega
    simp [qOf, this]
  · rw [if_neg h]
    have : (qOf X n).drop i = [] := List.drop_eq_nil_of_le (by rw [qOf_len]; omega)
    rw [this]; rfl
theorem BL.form {w : World} {v : Value} {n : Nat} {X : Nat → Int} (h : BL w v n X) : ∃ A cap, v = .slice A n cap := by
  rcases h with ⟨rfl, A, cap, rfl⟩ | ⟨ab, ao, cap, rfl, _⟩ <;> exact ⟨_, _, rfl⟩
theorem BL.at {w w' : World} {v : Value} {n : Nat} {X : Nat → Int} (h : BL w v n X) (hb : Below w.heap.size w w') {k : Nat} (hk : k < n) :
    ∃ ab ao cap, v = .slice (some ⟨ab, ao, none⟩) n cap ∧ w'.cell? ⟨ab, ao + k, none⟩ = some (.int .u8 (X k)) ∧ (0 ≤ X k ∧ X k < 256) ∧ n ≤ 140737488355328 := by
  rcases h with ⟨rfl, _⟩ | ⟨ab, ao, cap, rfl, hab, hn, hX⟩
  · omega
  · obtain ⟨h1, h2, h3⟩ := hX k hk
    exact ⟨ab, ao, cap, rfl, (hb.cell (p := ⟨ab, ao + k, none⟩) (hab (by omega))).trans h1, ⟨h2, h3⟩, hn⟩

/-- One port, alone. -/
structure MU (w0 w : World) (b : Nat) (q s : List Int) (wa lo : Bool) (sc : Int) : Prop where
  ex : ∃ qv sv, UU w b qv sv q s wa lo sc ∧ Pack w0 w [UC b qv sv]
section
variable {w0 w : World} {b : Nat} {q s : List Int} {wa lo : Bool} {sc : Int}
theorem pack_none (h : Below w0.heap.size w0 w) : Pack w0 w [Comp.none] := (Pack.nil h).more
theorem below_of_grown (h : w0.grownBy w none) : Below w0.heap.size w0 w := ⟨h.os, h.tape, h.output, h.size, fun k hk => h.block k hk (by simp)⟩
theorem MU.below (h : MU w0 w b q s wa lo sc) : Below w0.heap.size w0 w := by obtain ⟨_, _, _, p⟩ := h.ex; exact p.below
theorem new_mu (h : w0.grownBy w none) : Calls Try.prog 8 #[] w fun e w' => ∃ b, e = .returned (.pointer (some ⟨b, 0, none⟩)) ∧ MU w0 w' b [] [] false false 0 :=
  (new_any w).mono fun _ _ ⟨b, he, hu, t⟩ => ⟨b, he, ⟨_, _, hu, (pack_none (below_of_grown h)).turn t⟩⟩
theorem give_mu (h : MU w0 w b q s wa lo sc) (x : Int) (hx0 : 0 ≤ x) (hx1 : x < 256) : Calls Try.prog 16 #[.pointer (some ⟨b, 0, none⟩), .int .u8 x] w fun e w' =>
    e = .returned (.tuple #[]) ∧ MU w0 w' b (if 16 ≤ q.length then q else q ++ [x]) s wa (if 16 ≤ q.length then true else lo) sc := by
  obtain ⟨qv, sv, hu, hp⟩ := h.ex
  exact (give_any hu x hx0 hx1).mono fun _ _ ⟨he, qv', hu', t⟩ => ⟨he, ⟨_, _, hu', hp.turn t⟩⟩
theorem read_mu (h : MU w0 w b q s wa lo sc) (at_ size : Int) (a0 : 0 ≤ at_) : Calls Try.prog 12 #[.pointer (some ⟨b, 0, none⟩), .int .u64 at_, .int .i64 size] w fun e w' =>
    e = .returned (.tuple #[.int .u64 (rV q wa lo sc at_ size), .bool (rOk at_ size)]) ∧ MU w0 w' b (rQ q at_ size) s wa (rLo lo at_ size) sc := by
  obtain ⟨qv, sv, hu, hp⟩ := h.ex
  exact (read_any hu at_ size a0).mono fun _ _ ⟨he, qv', hu', t⟩ => ⟨he, ⟨_, _, hu', hp.turn t⟩⟩
def r5 (q : List Int) (lo : Bool) : Int := 96 + (if 0 < q.length then 1 else 0) + (if lo then 2 else 0)
theorem read5_mu (h : MU w0 w b q s wa lo sc) : Calls Try.prog 12 #[.pointer (some ⟨b, 0, none⟩), .int .u64 5, .int .i64 1] w fun e w' =>
    e = .returned (.tuple #[.int .u64 (r5 q lo), .bool true]) ∧ MU w0 w' b q s wa false sc :=
  (read_mu h 5 1 (by omega)).mono fun _ _ ⟨he, hm⟩ => ⟨he, hm⟩
theorem read0_mu (h : MU w0 w b q s wa lo sc) : Calls Try.prog 12 #[.pointer (some ⟨b, 0, none⟩), .int .u64 0, .int .i64 1] w fun e w' =>
    e = .returned (.tuple #[.int .u64 (q.headD 0), .bool true]) ∧ MU w0 w' b q.tail s wa lo sc :=
  (read_mu h 0 1 (by omega)).mono fun _ _ ⟨he, hm⟩ => ⟨he, hm⟩
end

set_option maxRecDepth 100000 in
set_option maxHeartbeats 4000000 in
theorem room_walk (v : Value) (n : Nat) (X : Nat → Int) (w : World) (hS : BL w v n X) :
    Calls Try.prog 5 #[v] w fun e w' => e = .returned (.bool true) ∧ Below w.heap.size w w' := by
  obtain ⟨A, cap, rfl⟩ := hS.form
  have HS := hide hS
  clear hS
  go_enter Try.func5, Try.ntmps5
  go_wp2_with (first
      | (go_at_call 7; refine (fixed_any w).mono ?_; rintro e w1 ⟨rfl, b1⟩)
      | (go_at_call 8; refine (new_mu b1).mono ?_; rintro e w2 ⟨b, rfl, hm⟩))
  go_loopw [4] (fun i wr => ∃ k : Nat, i = .int .i64 k ∧ k ≤ n ∧ MU w wr b (qOf X k) [] false (decide (16 < k)) 0) (fun i _ => n - (intOf i).toNat)
  case atStart => exact ⟨0, rfl, Nat.zero_le _, hm⟩
  case round =>
    clear hm
    obtain ⟨k, rfl, hk, hm⟩ := hrel
    by_cases hlt : k < n
    · obtain ⟨ab, ao, cap', hv, hc, ⟨hx0, hx1⟩, hN⟩ := (unhide HS).at hm.below hlt
      have hA : A = some ⟨ab, ao, none⟩ := by injection hv
      subst hA
      clear hv
      have hlo : (if 16 ≤ (qOf X k).length then true else decide (16 < k)) = decide (16 < k + 1) := by
        rw [qOf_len]
        by_cases h : 16 ≤ k
        · rw [if_pos (by omega)]; simp; omega
        · rw [if_neg (by omega)]; simp; omega
      have H1 := hide (qOf_succ X k)
      have H2 := hide hlo
      clear hlo
      go_wp2_with (go_at_call 16; refine (give_mu hm _ hx0 hx1).mono ?_; rintro e w4 ⟨rfl, hm⟩; rw [unhide H1, unhide H2] at hm)
      go_roundw
      case rel => exact ⟨k + 1, by go_num, by omega, hm⟩
      case measure => simp [intOf]; omega
    · have ekn : n = k := by omega
      subst ekn
      clear hk hlt
      have hcs : (n = 0 ∧ r5 (qOf X n) (decide (16 < n)) = 96 ∧ r5 (qOf X n) false = 96) ∨ (0 < n ∧ ¬ 16 < n ∧ r5 (qOf X n) (decide (16 < n)) = 97 ∧ r5 (qOf X n) false = 97) ∨ (16 < n ∧ r5 (qOf X n) (decide (16 < n)) = 99 ∧ r5 (qOf X n) false = 97) := by
        unfold r5
        rw [qOf_len]
        by_cases h0 : n = 0
        · subst h0; left; decide
        · by_cases h1 : 16 < n
          · right; right
            refine ⟨h1, ?_, ?_⟩ <;> rw [if_pos (by omega)] <;> simp [h1]
          · right; left
            refine ⟨by omega, h1, ?_, ?_⟩ <;> rw [if_pos (by omega)] <;> simp [h1]
      have hcs2 : ∃ (d1 d2 : Bool), decide ((16 : Int) < (n : Int)) = d1 ∧ decide (0 < n) = d2 ∧ ((d1 = false ∧ d2 = false ∧ r5 (qOf X n) (decide (16 < n)) = 96 ∧ r5 (qOf X n) false = 96) ∨ (d1 = false ∧ d2 = true ∧ r5 (qOf X n) (decide (16 < n)) = 97 ∧ r5 (qOf X n) false = 97) ∨ (d1 = true ∧ d2 = true ∧ r5 (qOf X n) (decide (16 < n)) = 99 ∧ r5 (qOf X n) false = 97)) := by
        refine ⟨_, _, rfl, rfl, ?_⟩
        rcases hcs with ⟨h0, ha, hb⟩ | ⟨h0, h1, ha, hb⟩ | ⟨h1, ha, hb⟩
        · exact .inl ⟨by simp; omega, by simp; omega, ha, hb⟩
        · exact .inr (.inl ⟨by simp; omega, by simp; omega, ha, hb⟩)
        · exact .inr (.inr ⟨by simp; omega, by simp; omega, ha, hb⟩)
      clear hcs
      obtain ⟨d1, d2, e1, e2, hcs⟩ := hcs2
      rcases hcs with ⟨rfl, rfl, ha, hb⟩ | ⟨rfl, rfl, ha, hb⟩ | ⟨rfl, rfl, ha, hb⟩
      all_goals
        go_wp2_with (first | (go_at_call 12; refine (read5_mu hm).mono ?_; rintro e w4 ⟨rfl, hm⟩; rw [ha]) | (go_at_call 12; refine (read5_mu hm).mono ?_; rintro e w4 ⟨rfl, hm⟩; rw [hb]))
        go_loopw [11] (fun i wr => ∃ j : Nat, i = .int .i64 j ∧ j ≤ 20 ∧ MU w wr b ((qOf X n).drop j) [] false false 0) (fun i _ => 20 - (intOf i).toNat)
        case atStart => exact ⟨0, rfl, Nat.zero_le _, hm⟩
        case round =>
          clear hm
          obtain ⟨j, rfl, hj, hm⟩ := hrel
          clear ha hb e1 e2
          by_cases hj20 : j < 20
          · have hh := qOf_head X n j
            have ht : ((qOf X n).drop j).tail = (qOf X n).drop (j + 1) := List.tail_drop
            by_cases a1 : j < n
            · obtain ⟨ab, ao, cap', hv, _, ⟨hx0, hx1⟩, hN⟩ := (unhide HS).at hm.below a1
              have hA : A = some ⟨ab, ao, none⟩ := by injection hv
              subst hA
              clear hv
              have hx2 : X j % 18446744073709551616 = X j := by omega
              by_cases a2 : j < 16
              · rw [if_pos ⟨a1, a2⟩] at hh
                have hh' := hide hh
                have ht' := hide ht
                have ha1 := hide a1
                clear hh ht
                go_wp2_with (go_at_call 12; refine (read0_mu hm).mono ?_; rintro e w4 ⟨rfl, hm⟩; rw [unhide ht'] at hm; rw [unhide hh']; obtain ⟨ab', ao', cap2, hv, hc, _, _⟩ := (unhide HS).at hm.below (unhide ha1); injection hv with hv1 hv2 hv3; injection hv1 with hv1; injection hv1 with hv4 hv5; subst hv4; subst hv5; clear hv2 hv3)
                go_roundw
                case rel => first | exact ⟨j + 1, by go_num, by omega, hm⟩ | ((repeat apply Exists.intro); exact ⟨⟨j + 1, by go_num, by omega, hm⟩, rfl⟩)
                case measure => simp [intOf]; omega
              · rw [if_neg (fun e => a2 e.2)] at hh
                have hh' := hide hh
                have ht' := hide ht
                have a2' : decide ((j : Int) < 16) = false := by simp; omega
                clear hh ht
                go_wp2_with (go_at_call 12; refine (read0_mu hm).mono ?_; rintro e w4 ⟨rfl, hm⟩; rw [unhide ht'] at hm; rw [unhide hh'])
                go_roundw
                case rel => first | exact ⟨j + 1, by go_num, by omega, hm⟩ | ((repeat apply Exists.intro); exact ⟨⟨j + 1, by go_num, by omega, hm⟩, rfl⟩)
                case measure => simp [intOf]; omega
            · rw [if_neg (fun e => a1 e.1)] at hh
              have hh' := hide hh
              have ht' := hide ht
              have a1' : decide (j < n) = false := by simp; omega
              clear hh ht
              go_wp2_with (go_at_call 12; refine (read0_mu hm).mono ?_; rintro e w4 ⟨rfl, hm⟩; rw [unhide ht'] at hm; rw [unhide hh'])
              go_roundw
              case rel => first | exact ⟨j + 1, by go_num, by omega, hm⟩ | ((repeat apply Exists.intro); exact ⟨⟨j + 1, by go_num, by omega, hm⟩, rfl⟩)
              case measure => simp [intOf]; omega
          · obtain rfl : j = 20 := by omega
            have hz : r5 ((qOf X n).drop 20) false = 96 := by
              rw [List.drop_eq_nil_of_le (by rw [qOf_len]; omega)]
              rfl
            have hz' := hide hz
            clear hz
            go_wp2_with (go_at_call 12; refine (read5_mu hm).mono ?_; rintro e w4 ⟨rfl, hm⟩; rw [unhide hz'])
            go_ret
            exact ⟨rfl, hm.below⟩
end Go.Proofs.Ytaholijnfekkgaa
