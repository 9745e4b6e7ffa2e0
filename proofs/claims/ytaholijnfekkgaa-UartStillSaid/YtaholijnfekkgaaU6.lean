/- The serial port: strings of what went out; the fixed calls. -/
import Derived.Test.YtaholijnfekkgaaU5
import Derived.Laws.BytesString
import Derived.Laws.IdiomStrings
namespace Go.Proofs.Ytaholijnfekkgaa
open Go.RowKit

/-- The bytes of a list as a string. -/
def strOf (s : List Int) : ByteArray := s.foldl (fun r n => r.push (UInt8.ofNat n.toNat)) ByteArray.empty
theorem conv_sl {w : World} {v : Value} {s : List Int} (h : Sl w 1 v s.length (s.map bv)) : (convert 35 9 v).run Try.prog w = .ok (.string (strOf s)) w := by
  rcases h.form with ⟨rfl, h0⟩ | ⟨g, o, cap, cur, T, rfl, hh, hc, hs, hx⟩
  · have : s = [] := List.eq_nil_of_length_eq_zero h0
    subst this
    rw [run_convert_bytes_string w 35 9 5 _ _ _ Try.underlying35 Try.underlying5 Try.underlying9]
    simp [Conv.bytesToString, strOf]
  · rw [run_convert_bytes_string w 35 9 5 _ _ _ Try.underlying35 Try.underlying5 Try.underlying9]
    have hl := run_loadCells_list (P := Try.prog) w ⟨g, o, none⟩ (s.map bv) (h.cells_at rfl)
    simp only [List.length_map] at hl
    exact run_bytesToString w ⟨g, o, none⟩ s.length cap s hl

theorem grown_of_turn {w w' : World} {A : Comp} (h : Turn w w' Comp.none A) : w.grownBy w' none := ⟨h.os, h.tape, h.output, h.size, fun k hk _ => h.block k hk (fun e => e.elim)⟩
theorem grown_of_pack {w w' : World} {l : List Comp} (h : Pack w w' l) : w.grownBy w' none := ⟨h.below.os, h.below.tape, h.below.output, h.below.size, fun k hk _ => h.below.block k hk⟩

theorem fixed_any (w : World) : Calls Try.prog 7 #[] w fun e w' => e = .returned (.bool true) ∧ w.grownBy w' none := by
  have P0 : Pack w w [Comp.none] := (Pack.nil ⟨rfl, rfl, rfl, Nat.le_refl _, fun _ _ => rfl⟩).more
  have c1 : ∀ (w : World) b qv sv, UU w b qv sv [] [] false false 0 → Calls Try.prog 16 #[.pointer (some ⟨b, 0, none⟩), .int .u8 97] w fun e w' =>
      e = .returned (.tuple #[]) ∧ ∃ qv', UU w' b qv' sv [97] [] false false 0 ∧ Turn w w' (UC b qv sv) (UC b qv' sv) := fun w b qv sv h => give_any h 97 (by omega) (by omega)
  have c2 : ∀ (w : World) b qv sv, UU w b qv sv [97] [] false false 0 → Calls Try.prog 12 #[.pointer (some ⟨b, 0, none⟩), .int .u64 5, .int .i64 1] w fun e w' =>
      e = .returned (.tuple #[.int .u64 97, .bool true]) ∧ ∃ qv', UU w' b qv' sv [97] [] false false 0 ∧ Turn w w' (UC b qv sv) (UC b qv' sv) := fun w b qv sv h => read_any h 5 1 (by omega)
  have c3 : ∀ (w : World) b qv sv, UU w b qv sv [97] [] false false 0 → Calls Try.prog 10 #[.pointer (some ⟨b, 0, none⟩), .int .u64 1, .int .i64 1, .int .u64 3] w fun e w' =>
      e = .returned (.bool true) ∧ ∃ sv', UU w' b qv sv' [97] [] true false 0 ∧ Turn w w' (UC b qv sv) (UC b qv sv') := fun w b qv sv h => write_any h (by simp) 1 1 3 (by omega) (by omega) (by omega)
  have c4 : ∀ (w : World) b qv sv, UU w b qv sv [97] [] true false 0 → Calls Try.prog 18 #[.pointer (some ⟨b, 0, none⟩)] w fun e w' => e = .returned (.bool true) ∧ w' = w := fun w b qv sv h => up_any h
  have c5 : ∀ (w : World) b qv sv, UU w b qv sv [97] [] true false 0 → Calls Try.prog 12 #[.pointer (some ⟨b, 0, none⟩), .int .u64 0, .int .i64 1] w fun e w' =>
      e = .returned (.tuple #[.int .u64 97, .bool true]) ∧ ∃ qv', UU w' b qv' sv [] [] true false 0 ∧ Turn w w' (UC b qv sv) (UC b qv' sv) := fun w b qv sv h => read_any h 0 1 (by omega)
  have c6 : ∀ (w : World) b qv sv, UU w b qv sv [] [] true false 0 → Calls Try.prog 10 #[.pointer (some ⟨b, 0, none⟩), .int .u64 0, .int .i64 1, .int .u64 328] w fun e w' =>
      e = .returned (.bool true) ∧ ∃ sv', UU w' b qv sv' [] [72] true false 0 ∧ Turn w w' (UC b qv sv) (UC b qv sv') := fun w b qv sv h => write_any h (by simp) 0 1 328 (by omega) (by omega) (by omega)
  have c7 : ∀ (w : World) b qv sv, UU w b qv sv [] [72] true false 0 → Calls Try.prog 18 #[.pointer (some ⟨b, 0, none⟩)] w fun e w' => e = .returned (.bool false) ∧ w' = w := fun w b qv sv h => up_any h
  have s72 : strOf [72] = { data := #[72] } := by rfl
  have C1 := hide c1
  have C2 := hide c2
  have C3 := hide c3
  have C4 := hide c4
  have C5 := hide c5
  have C6 := hide c6
  have C7 := hide c7
  clear c1 c2 c3 c4 c5 c6 c7
  go_enter Try.func7, Try.ntmps7
  go_wp2_with (first
    | (go_at_call 18; refine (unhide C4 _ _ _ _ h10').mono ?_; rintro e w11 ⟨rfl, rfl⟩)
    | (go_at_call 20; refine (sent_any h10' (by simp)).mono ?_; rintro e w12 ⟨v2, rfl, hsl2, hg2, _⟩; have P12 := P10.quiet hg2; obtain ⟨A2, cap2, rfl, _⟩ := hsl2.parts; clear hsl2 hg2)
    | (go_at_call 20; refine (sent_any h7 (by simp)).mono ?_; rintro e w10 ⟨v1, rfl, hsl1, hg1, _⟩; have P10 := P7.quiet hg1; have h10' := h7'.quiet hg1; have cv := conv_sl hsl1; rw [s72] at cv; clear hsl1 hg1)
    | (go_at_call 8; refine (new_any _).mono ?_; rintro e w1 ⟨b, rfl, h1, t1⟩; have P1 := P0.turn t1; clear t1)
    | (go_at_call 16; refine (unhide C1 _ _ _ _ h1).mono ?_; rintro e w2 ⟨rfl, q2, h2, t2⟩; have P2 := P1.turn t2; clear t2)
    | (go_at_call 12; refine (unhide C5 _ _ _ _ h5).mono ?_; rintro e w6 ⟨rfl, q6, h6, t6⟩; have P6 := P5.turn t6; have h6' := h5'.keep (P5.keep t6 (by simp)); clear t6)
    | (go_at_call 12; refine (unhide C2 _ _ _ _ h2).mono ?_; rintro e w3 ⟨rfl, q3, h3, t3⟩; have P3 := P2.turn t3; clear t3)
    | (go_at_call 10; refine (unhide C6 _ _ _ _ h6).mono ?_; rintro e w7 ⟨rfl, q7, h7, t7⟩; have P7 := P6.turn t7; have h7' := h6'.keep (P6.keep t7 (by simp)); clear t7)
    | (go_at_call 10; refine (unhide C3 _ _ _ _ h3).mono ?_; rintro e w4 ⟨rfl, q4, h4, t4⟩; have P4 := P3.turn t4; clear t4)
    | (go_at_call 18; refine (unhide C7 _ _ _ _ h7).mono ?_; rintro e w9 ⟨rfl, rfl⟩)
    | (go_at_call 18; refine (unhide C4 _ _ _ _ h4).mono ?_; rintro e w9 ⟨rfl, rfl⟩)
    | (go_at_call 14; refine (copy_any h4).mono ?_; rintro e w5 ⟨b5, q5, s5, rfl, h5, h5', d5, t5⟩; have P5 := (P4.turn t5).split d5; clear t5 d5))
  go_ret
  exact ⟨rfl, grown_of_pack P12⟩
end Go.Proofs.Ytaholijnfekkgaa
