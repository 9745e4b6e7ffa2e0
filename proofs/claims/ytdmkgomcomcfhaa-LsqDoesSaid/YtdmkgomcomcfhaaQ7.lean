/- Layer 23: the closures: what each byte's giver does to what they hold. -/
import Derived.Test.YtdmkgomcomcfhaaQ6
namespace Go.Proofs.Ytdmkgomcomcfhaa
open Go.RowKit

def wrapA (a : Int) (i : Nat) : Int := (a + i) % 18446744073709551616
theorem wrapA_bd (a : Int) (i : Nat) : 0 ≤ wrapA a i ∧ wrapA a i < 18446744073709551616 := by unfold wrapA; omega
theorem hmf (fn : Fn) (first cap : Array Value) (w : World) : (Instr.makeFunc fn first cap).run Try.prog w = .ok (.func fn first cap) w := rfl
theorem optI_eq (o : Option Nat) (n : Nat) : (optI o == (n : Int)) = decide (o = some n) := by
  cases o with
  | none => simp [optI]
  | some m =>
    by_cases h : m = n
    · subst h; simp [optI]
    · have h2 : ¬ (m : Int) = n := by omega
      simp [optI, h, h2]
def O (b : Nat) (A : Option Addr) (cap : Nat) (bs : List Nat) (q : Qs) (L : List HP) : List HP :=
  HP.blk b (qcs (.slice A q.l.length cap) q.h).toArray 69 :: HP.slw (.slice A q.l.length cap) 1 q.l.length (ptrs bs) :: HP.ents bs q.l :: L
structure OK (b : Nat) (A : Option Addr) (cap : Nat) (bs : List Nat) (q : Qs) : Prop where
  inv : QI q
  lenl : bs.length = q.l.length
  capl : q.l.length ≤ cap
section
variable {w0 w : World} {L : List HP} {b : Nat} {q : Qs} {A : Option Addr} {cap : Nat} {bs : List Nat}
theorem Heap.rq (k : OK b A cap bs q) (h : Heap w0 w (O b A cap bs q L)) : RQ w b A cap bs q :=
  ⟨k.inv, k.lenl, k.capl, Heap.heap h, (Heap.f2 h).slw, fun _ _ _ h1 h2 => (Heap.f3 h).ents_get h1 h2⟩
theorem RQ.ok (h : RQ w b A cap bs q) : OK b A cap bs q := ⟨h.inv, h.lenl, h.capl⟩
set_option maxRecDepth 100000 in
theorem cl37 {kE kN : Nat} {E : Bool} {n : Int} (h : Heap w0 w (HP.blk kE #[.bool E] 4 :: HP.blk kN #[.int .i64 n] 3 :: L)) (i g : Int) :
    Calls Try.prog 37 #[.int .i64 i, .int .i64 g, ptr kE, ptr kN] w fun r w' => r = .returned (.tuple #[]) ∧ Heap w0 w' (HP.blk kE #[.bool (E || (g == n))] 4 :: HP.blk kN #[.int .i64 n] 3 :: L) := by
  obtain ⟨c0, f0⟩ := cells1 h.heap
  obtain ⟨c1, _⟩ := cells1 h.f2.heap
  have hl0 := lt_of_heap' h.heap
  have hl1 := lt_of_heap' h.f2.heap
  have hS := h.set 0 (.bool (E || (g == n)))
  have HS := hide hS
  clear h hS
  unfold ptr
  go_enter Try.func37, Try.ntmps37
  cases E with
  | true =>
    go_wp2
    exact bodyPost_end (v := .tuple #[]) (by simp [results, Try.results37, go_sem]) rfl ⟨rfl, unhide HS⟩
  | false =>
    go_wp2
    exact bodyPost_end (v := .tuple #[]) (by simp [results, Try.results37, go_sem]) rfl ⟨rfl, unhide HS⟩
/-- For some of the first j bytes of the k-th entry's place n is the giver. -/
def early (l : List Ent) (k n : Nat) (a : Int) (j : Nat) : Bool := (List.range j).any fun i => decide (giver l (wrapA a i) k = some n)
theorem early_up (l : List Ent) (k n : Nat) (a : Int) (j : Nat) : early l k n a (j + 1) = (early l k n a j || decide (giver l (wrapA a j) k = some n)) := by
  unfold early
  rw [List.range_succ, List.any_append]
  simp
set_option maxRecDepth 100000 in
set_option maxHeartbeats 2000000 in
theorem each37 {kE kN n k : Nat} {e : Ent} (hk : OK b A cap bs q) (he : q.l[k]? = some e) (h : Heap w0 w (HP.blk kE #[.bool false] 4 :: HP.blk kN #[.int .i64 (n : Nat)] 3 :: O b A cap bs q L)) :
    Calls Try.prog 36 #[ptr b, .int .i64 (k : Nat), .func (.func 37) #[] #[ptr kE, ptr kN]] w fun r w' => r = .returned (.tuple #[]) ∧ Heap w0 w' (HP.blk kE #[.bool (early q.l k n e.at_ e.size.toNat)] 4 :: HP.blk kN #[.int .i64 (n : Nat)] 3 :: O b A cap bs q L) := by
  have hR := Heap.rq hk h.tail.tail
  obtain ⟨q0, _, hbl⟩ := hR.c0
  obtain ⟨g, o, x, rfl, hx, hgl, hg, hxl, hxb⟩ := hR.ent_at he
  obtain ⟨d0, d1, d2, d3, d4, d5, d6, d7, d8⟩ := cells9 hxb
  have heo := hk.inv.ok e (List.mem_of_getElem? he)
  obtain ⟨s0, s8⟩ := size_bd heo
  have hat := heo.at_
  have hkl := (List.getElem?_eq_some_iff.1 he).1
  have hlen16 := hk.inv.len
  obtain ⟨S, hS⟩ : ∃ S : Nat, e.size = S := ⟨e.size.toNat, by omega⟩
  rw [show e.size.toNat = S by omega]
  rw [hS] at d7 s8
  unfold ptr at hg ⊢
  have Hk := hide hk
  have He := hide he
  obtain ⟨len, hlen⟩ : ∃ len, q.l.length = len := ⟨_, rfl⟩
  rw [hlen] at q0 hkl hlen16
  have Hlen := hide hlen
  have H := hide h
  clear h hR hk he heo hS hx hxb hlen
  go_enter Try.func36, Try.ntmps36
  go_wp2
  go_loopw [17] (fun i wr => ∃ j : Nat, i = .int .i64 j ∧ j ≤ S ∧ Heap w0 wr (HP.blk kE #[.bool (early q.l k n e.at_ j)] 4 :: HP.blk kN #[.int .i64 (n : Nat)] 3 :: O b (some ⟨g, o, none⟩) cap bs q L)) (fun i _ => S - (intOf i).toNat)
  case atStart => exact ⟨0, rfl, Nat.zero_le _, unhide H⟩
  case round =>
    obtain ⟨j, rfl, hj, hJ⟩ := hrel
    clear q0 hbl hgl hg hxl d0 d1 d2 d3 d4 d5 d6 d7 d8
    have hR := Heap.rq (unhide Hk) hJ.tail.tail
    obtain ⟨q0, _, hbl⟩ := hR.c0
    obtain ⟨g', o', x, hA, hx, hgl, hg, hxl, hxb⟩ := hR.ent_at (unhide He)
    injection hA with hA
    injection hA with hA1 hA2
    subst hA1 hA2
    obtain ⟨d0, d1, d2, d3, d4, d5, d6, d7, d8⟩ := cells9 hxb
    unfold ptr at hg
    rw [unhide Hlen] at q0
    by_cases hlt : j < S
    · have hw := wrapA_bd e.at_ j
      have hwe : IntKind.u64.wrap (e.at_ + (j : Int)) = wrapA e.at_ j := IntKind.wrap_u64 _
      have hwj : IntKind.u64.wrap (j : Int) = (j : Int) := by rw [IntKind.wrap_u64]; omega
      have hcall := hide (giver_any hR k (by rw [unhide Hlen]; omega) (wrapA e.at_ j) hw.1 hw.2)
      have HJ := hide hJ
      clear hJ hR hx hxb
      go_wp2_with fail
      refine (unhide hcall).mono ?_
      rintro r w2 ⟨rfl, hg2⟩
      have hJ2 := (unhide HJ).grown hg2
      clear hcall HJ hg2 q0 hbl hgl hg hxl d0 d1 d2 d3 d4 d5 d6 d7 d8
      go_wp2_with fail
      refine (cl37 hJ2 j (optI (giver q.l (wrapA e.at_ j) k))).mono ?_
      rintro r w3 ⟨rfl, hJ3⟩
      rw [optI_eq, ← early_up] at hJ3
      clear hJ2
      go_wp2
      exact ⟨⟨j + 1, by go_num, by omega, hJ3⟩, by simp [intOf]; omega⟩
    · obtain rfl : j = S := by omega
      go_wp2
      exact bodyPost_end (v := .tuple #[]) (by simp [results, Try.results36, go_sem]) rfl ⟨rfl, hJ⟩
end
end Go.Proofs.Ytdmkgomcomcfhaa
