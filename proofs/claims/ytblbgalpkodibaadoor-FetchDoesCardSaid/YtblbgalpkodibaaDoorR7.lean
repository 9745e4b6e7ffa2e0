/- Layer 4: the document's Expand, Short. -/
import Derived.Test.YtblbgalpkodibaaDoorR5
import Derived.Test.YtblbgalpkodibaaDoorR6
namespace Go.Proofs.YtblbgalpkodibaaDoor
open Go.RowKit

def rexN (h : Nat) : Nat := bif prt h 1 0 == 0 then zeroN h else bif prt h 1 0 == 1 then oneN h else bif prt h 1 0 == 2 then twoN h else 0
set_option maxRecDepth 100000 in
set_option maxHeartbeats 1000000 in
theorem rexpand_any {w0 : World} (hT : Tab w0) (h : Nat) (hh : h < 65536) (w : World) (hg : GN w0 w) : Calls Tryd.prog 14 #[.int .u16 h] w fun e w' => e = .returned (.tuple #[.int .u32 (rexN h : Nat), .bool (rexN h != 0)]) ∧ GN w0 w' := by
  have hm := prt_lt h 1 0 (by decide)
  rw [show 2 ^ (1 + 1 - 0) = 4 from rfl] at hm
  obtain ⟨ans, hans⟩ : ∃ a, rexN h = a := ⟨_, rfl⟩
  rw [hans]
  have hx := hans
  unfold rexN at hx
  clear hans
  generalize hm0 : prt h 1 0 = m at *
  have Hx := hide hx
  clear hx
  go_enter Tryd.func14, Tryd.ntmps14
  have h4 : m = 0 ∨ m = 1 ∨ m = 2 ∨ m = 3 := by omega
  clear hm
  rcases h4 with rfl | rfl | rfl | rfl
  · have hx := unhide Hx
    rw [condT (b := 0 == 0) rfl] at hx
    rw [← hx]
    clear hx
    go_wp2_with (first | (go_at_call 33; refine (rbits_any _ _ _ (by assumption) (by decide) (by decide) _).mono ?_; rintro _ _ ⟨rfl, hq⟩; replace hg := GN.trans hg hq; (try replace hA := IntsAt.gn hA hq); (try replace hD := IntsAt.gn hD hq); (try replace hB := IntsAt.gn hB hq); (try replace hL := IntsAt.gn hL hq); clear hq) | (go_at_call 34; refine (zero_any hT _ (by assumption) _ hg).mono ?_; rintro _ _ ⟨rfl, hg⟩))
    go_ret2
    exact ⟨congrArg (fun b => Ending.returned (Value.tuple #[.int .u32 (zeroN h : Nat), .bool b])) (natBNe _ 0), hg⟩
  · have hx := unhide Hx
    rw [condF (b := 1 == 0) rfl, condT (b := 1 == 1) rfl] at hx
    rw [← hx]
    clear hx
    go_wp2_with (first | (go_at_call 33; refine (rbits_any _ _ _ (by assumption) (by decide) (by decide) _).mono ?_; rintro _ _ ⟨rfl, hq⟩; replace hg := GN.trans hg hq; (try replace hA := IntsAt.gn hA hq); (try replace hD := IntsAt.gn hD hq); (try replace hB := IntsAt.gn hB hq); (try replace hL := IntsAt.gn hL hq); clear hq) | (go_at_call 35; refine (one_any hT _ (by assumption) _ hg).mono ?_; rintro _ _ ⟨rfl, hg⟩))
    go_ret2
    exact ⟨congrArg (fun b => Ending.returned (Value.tuple #[.int .u32 (oneN h : Nat), .bool b])) (natBNe _ 0), hg⟩
  · have hx := unhide Hx
    rw [condF (b := 2 == 0) rfl, condF (b := 2 == 1) rfl, condT (b := 2 == 2) rfl] at hx
    rw [← hx]
    clear hx
    go_wp2_with (first | (go_at_call 33; refine (rbits_any _ _ _ (by assumption) (by decide) (by decide) _).mono ?_; rintro _ _ ⟨rfl, hq⟩; replace hg := GN.trans hg hq; (try replace hA := IntsAt.gn hA hq); (try replace hD := IntsAt.gn hD hq); (try replace hB := IntsAt.gn hB hq); (try replace hL := IntsAt.gn hL hq); clear hq) | (go_at_call 36; refine (two_any hT _ (by assumption) _ hg).mono ?_; rintro _ _ ⟨rfl, hg⟩))
    go_ret2
    exact ⟨congrArg (fun b => Ending.returned (Value.tuple #[.int .u32 (twoN h : Nat), .bool b])) (natBNe _ 0), hg⟩
  · have hx := unhide Hx
    rw [condF (b := 3 == 0) rfl, condF (b := 3 == 1) rfl, condF (b := 3 == 2) rfl] at hx
    rw [← hx]
    clear hx
    go_wp2_with (first | (go_at_call 33; refine (rbits_any _ _ _ (by assumption) (by decide) (by decide) _).mono ?_; rintro _ _ ⟨rfl, hq⟩; replace hg := GN.trans hg hq; (try replace hA := IntsAt.gn hA hq); (try replace hD := IntsAt.gn hD hq); (try replace hB := IntsAt.gn hB hq); (try replace hL := IntsAt.gn hL hq); clear hq))
    go_ret2
    exact ⟨rfl, hg⟩
theorem rshort_any (h : Nat) (hh : h < 65536) (w : World) : Calls Tryd.prog 15 #[.int .u16 h] w fun e w' => e = .returned (.bool (decide (prt h 1 0 < 3))) ∧ GN w w' := by
  have hg := GN.refl w
  generalize hp : prt h 1 0 = p
  go_enter Tryd.func15, Tryd.ntmps15
  by_cases h3 : p < 3
  · have zi : decide ((p : Int) < 3) = true := decide_eq_true (by omega)
    rw [decide_eq_true h3]
    go_wp2_with (first | (go_at_call 33; refine (rbits_any _ _ _ (by assumption) (by decide) (by decide) _).mono ?_; rintro _ _ ⟨rfl, hq⟩; replace hg := GN.trans hg hq; (try replace hA := IntsAt.gn hA hq); (try replace hD := IntsAt.gn hD hq); (try replace hB := IntsAt.gn hB hq); (try replace hL := IntsAt.gn hL hq); clear hq))
    go_ret
    exact ⟨rfl, hg⟩
  · have zi : decide ((p : Int) < 3) = false := decide_eq_false (by omega)
    rw [decide_eq_false h3]
    go_wp2_with (first | (go_at_call 33; refine (rbits_any _ _ _ (by assumption) (by decide) (by decide) _).mono ?_; rintro _ _ ⟨rfl, hq⟩; replace hg := GN.trans hg hq; (try replace hA := IntsAt.gn hA hq); (try replace hD := IntsAt.gn hD hq); (try replace hB := IntsAt.gn hB hq); (try replace hL := IntsAt.gn hL hq); clear hq))
    go_ret
    exact ⟨rfl, hg⟩
end Go.Proofs.YtblbgalpkodibaaDoor
