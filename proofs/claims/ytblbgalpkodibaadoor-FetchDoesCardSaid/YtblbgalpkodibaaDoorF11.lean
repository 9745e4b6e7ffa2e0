/- Layer 20: FetchRow: what a round brings, plain. -/
import Derived.Test.YtblbgalpkodibaaDoorF6
import Derived.Test.YtblbgalpkodibaaDoorNA
namespace Go.Proofs.YtblbgalpkodibaaDoor
open Go.RowKit
def hvs (l : List Nat) : List Value := l.map fun n : Nat => .int .u16 (n : Int)
theorem hvs_snoc (l : List Nat) (n : Nat) : hvs (l ++ [n]) = hvs l ++ [.int .u16 (n : Int)] := by simp [hvs]
theorem hvs_one (l : List Nat) : ∀ y ∈ hvs l, y.oneCell' = true := by
  intro y hy
  obtain ⟨n, _, rfl⟩ := List.mem_map.1 hy
  rfl
theorem hvs_len (l : List Nat) : (hvs l).length = l.length := by simp [hvs]
theorem hvs_at {l : List Nat} {k h : Nat} (hk : l[k]? = some h) : (hvs l)[k]? = some (.int .u16 (h : Int)) := by simp [hvs, hk]
theorem takeF_nil {F : Fr} (h : F.q = []) : takeF F = F := by
  obtain ⟨a, b, c, d, q⟩ := F
  subst h
  rfl
theorem and32_3 (n : Nat) : and32 n 3 = n % 4 := by
  unfold and32
  have : n &&& 3 = n % 4 := Nat.and_two_pow_sub_one_eq_mod n 2
  rw [this]; omega
theorem low_w {x : Int} {n : Nat} (hx : x = n) (h : and32 n 3 = 3) : bits .and .u32 x 3 = 3 := by
  have := and32_cast n 3
  rw [h] at this
  rw [hx]
  exact this.symm
/-- What a round of FetchRow finds: the front behind Give and Take, the item, whether it is there. -/
inductive RowC (l : List Nat) (a : Int) (F2 : Fr) (c : St) (t i h : Nat) (pv : Int) (y : It) (ev : Bool) : Prop
  | first (e : ev = false) (next : RowI l a F2 c t (i + 1))
  | trap (e : ev = true) (pc : y.pc = pv) (cause : y.cause = 2) (tval : y.tval = h) (stop : canF F2 = false) (low : and16 h 3 ≠ 3) (none : exN h = 0) (ti : t = i)
  | short (e : ev = true) (pc : y.pc = pv) (cause : y.cause = 0) (size : y.size = 2) (nxt : y.nxt = w64 (pv + 2)) (bits_ : y.bits = h) (inst : bits .and .u32 y.inst 3 = 3) (ti : t = i) (tk : hvs (l.take (t + 1)) = hvs (l.take t) ++ [.int .u16 (h : Int)]) (next : RowI l a F2 c (t + 1) (i + 1))
  | long (f : Nat) (e : ev = true) (pc : y.pc = pv) (cause : y.cause = 0) (size : y.size = 4) (nxt : y.nxt = w64 (pv + 4)) (bits_ : y.bits = h * 65536 + f) (inst : bits .and .u32 y.inst 3 = 3) (ti : i = t + 1) (tk : hvs (l.take (t + 2)) = (hvs (l.take t) ++ [.int .u16 (f : Int)]) ++ [.int .u16 (h : Int)]) (hf : f < 65536) (next : RowI l a F2 c (t + 2) (i + 1))
theorem RowI.found {l : List Nat} {a : Int} {F : Fr} {c : St} {t i h : Nat} (H : RowI l a F c t i) (hh : h < 65536) (hl : l[i]? = some h) (hx : ∀ (k x : Nat), l[k]? = some x → x < 65536) :
    RowC l a (takeF (giveF F c h)) c t i h (w64 (a + 2 * t)) (headI (giveF F c h)) (!(giveF F c h).q.isEmpty) := by
  rcases H.step hh hl with ⟨q, nx⟩ | ⟨x, q, st, pc, cu, tv, sh, no, ti⟩ | ⟨x, q, pc, cu, sz, nx, bi, ins, so, ti, next⟩ | ⟨x, f, q, pc, cu, sz, nx, bi, ins, lo, fs, ti, next⟩
  · refine .first (by rw [q]; rfl) ?_
    rw [takeF_nil q]; exact nx
  · have e : headI (giveF F c h) = x := by unfold headI; rw [q]; rfl
    rw [e]
    refine .trap (by rw [q]; rfl) pc cu tv ?_ sh no ti
    unfold canF takeF
    simp only
    rw [st]; rfl
  · have e : headI (giveF F c h) = x := by unfold headI; rw [q]; rfl
    rw [e]
    refine .short (by rw [q]; rfl) pc cu sz (by rw [nx, pc]) bi ?_ ti ?_ next
    · rcases ex_low h hh with h0 | h0
      · exact absurd h0 so
      · exact low_w ins h0
    · rw [take_one (by rw [ti]; exact hl), hvs_snoc]
  · have e : headI (giveF F c h) = x := by unfold headI; rw [q]; rfl
    rw [e]
    refine .long f (by rw [q]; rfl) pc cu sz (by rw [nx, pc]) bi ?_ ti ?_ (hx _ _ fs) next
    · refine low_w (n := h * 65536 + f) (by rw [ins]; simp) ?_
      rw [and16_3] at lo
      rw [and32_3]; omega
    · rw [take_two fs (by rw [← ti]; exact hl)]
      simp [hvs]
end Go.Proofs.YtblbgalpkodibaaDoor
