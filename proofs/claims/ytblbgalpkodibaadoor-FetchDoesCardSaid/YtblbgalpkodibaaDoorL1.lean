/- Layer 4: the listed table. -/
import Derived.Test.YtblbgalpkodibaaDoorOpenL
import Derived.Test.YtblbgalpkodibaaDoorS1
namespace Go.Proofs.YtblbgalpkodibaaDoor
open Go.ChangeShapes Go.WideShapes Go.ChangeAt Go.RowKit

theorem gPlaces : Tryd.prog.globalNamed "tandem/squeeze.places" = some 0 := by kernel_rfl
theorem tPlaces : (Tryd.prog.globals[0]?).map (·.type) = some 110 := by kernel_rfl
abbrev laidP : List (String × DataW Unit) := [("tandem/squeeze.places", Rows.laid_tandem_squeeze_places)]
theorem laid_rows : (Rows.laid_tandem_squeeze_places : DataW Unit) = .agg ((List.range 9).map fun r => .slice (((row r).map (fun p : Nat => (p : Int))).map fun n => .lit (.int .i64 n)) []) := by kernel_rfl
theorem row_ne : ∀ r, r < 9 → row r ≠ [] := by decide
theorem door_met (os : Os) (args : Array Value) : laidMetH Tryd.prog laidP ((World.doorLaid Tryd.prog 23 os).forCall (fun _ _ => 0) ⟨#[], args, []⟩).memory :=
  laidMetH_of_parts3 (fuel := 8) (laidMet_of_run' 8 (by kernel_rfl) (by kernel_rfl)) (by kernel_rfl) (by kernel_rfl)
theorem tab_of_laid {W : World} (h : laidMetH Tryd.prog laidP W) : Tab W := by
  rw [MakeChecks.laidMetH_plain _ _ _ (by kernel_rfl)] at h
  obtain ⟨ps, ⟨g0, t0, cs0, f0, p0, q0, hg0, ht0, hv0, hd0, _, _⟩, _, _⟩ := h
  obtain rfl := Option.some.inj (gPlaces.symm.trans hg0)
  obtain rfl := Option.some.inj (tPlaces.symm.trans ht0)
  rw [laid_rows] at hd0
  obtain ⟨xs, m1, rfl, hx1, hlen, hn, hel⟩ := DataW.trod_array Tryd.underlying110 hd0
  have c84 : Tryd.prog.cellsOf 84 = 1 := by kernel_rfl
  have c110 : Tryd.prog.cellsOf 110 = 9 := by kernel_rfl
  have c3 : Tryd.prog.cellsOf 3 = 1 := by kernel_rfl
  simp only [Prod.mk.injEq, DataW.agg.injEq] at hx1
  obtain ⟨hx1, _⟩ := hx1
  rw [c110] at hlen
  intro r hr
  have h1 := hel r hr
  rw [c84, Nat.mul_one] at h1
  obtain ⟨x, hx⟩ : ∃ x, xs[r]? = some x := ⟨_, List.getElem?_eq_getElem (by omega)⟩
  rw [hx] at h1
  have hd : x.1 = .slice (((row r).map (fun p : Nat => (p : Int))).map fun n => .lit (.int .i64 n)) [] := by
    have := congrArg (fun z => z[r]?) hx1
    simp only [List.getElem?_map, hx, List.getElem?_range hr, Option.map_some] at this
    exact (Option.some.inj this).symm
  obtain ⟨x1, x2⟩ := x
  simp only at hd
  subst hd
  obtain ⟨g, o, cap, hc, hcell⟩ := ints_at Tryd.underlying84 Tryd.underlying3 c3 (fun e => row_ne r hr (List.map_eq_nil_iff.1 e)) h1
  rw [List.length_map] at hc
  refine ⟨g, o, cap, ?_, fun j p hj => hcell j p (by rw [List.getElem?_map, hj]; rfl)⟩
  have h2 := World.var?_cell hg0 hv0 r
  rw [h2]
  have h3 : (cs0.toList.drop r).take 1 = [cs0.toList[r]'(by omega)] := by
    rw [List.drop_eq_getElem_cons (by omega)]; rfl
  rw [h3] at hc
  have h4 := List.cons.inj hc
  rw [← Array.getElem?_toList, List.getElem?_eq_getElem (by omega), h4.1]
end Go.Proofs.YtblbgalpkodibaaDoor
