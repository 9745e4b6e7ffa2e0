/- Layer 20: a range over the items whose rounds know of the item. -/
import Derived.Test.YtblbgalpkodibaaDoorFR
namespace Go.Proofs.YtblbgalpkodibaaDoor
open Go.RowKit Go.Shelf
section
variable {w : World} {b g : Nat} {F : Fr}
set_option maxRecDepth 100000 in
set_option maxHeartbeats 4000000 in
theorem items_iterM {n l box : Nat} {v : Value} {A : Option Addr} {cap : Nat} (hv : v = .slice A F.q.length cap) (J Jx : List It → World → Prop) {B : Nat} (hJ : AbidesFrom B J)
    (hY : ∀ pre x W1, J pre W1 → pre.length < F.q.length → x ∈ F.q → YieldAt Fence.wide (n - 1) Tryd.prog l #[.agg (itl x).toArray] W1 fun e W' =>
      (e = .returned (.bool true) ∧ J (pre ++ [x]) W' ∧ KpS v F.q W1 W') ∨ (e = .returned (.bool false) ∧ Jx (pre ++ [x]) W'))
    {W : World} (hbox : W.cell? ⟨box, 0, none⟩ = some (.pointer (some ⟨b, 0, none⟩))) (hC : FC W b g F A cap) (h0 : J [] W) :
    CallsIn Fence.wide n Tryd.prog 37 #[.func (.yield l) #[] #[], .pointer (some ⟨box, 0, none⟩)] W fun e W' => (∃ v, e = .returned v) ∧ ((∃ xs, xs = F.q ∧ J xs W') ∨ (∃ pre, pre <+: F.q ∧ Jx pre W')) := by
  have d5 := hC.cells.2.2.2.2.2
  have hbl := hC.lt
  have hlen := hC.I.len
  have hS0 := hC.sl
  rw [← hv] at hS0
  clear hC
  have HY := hide hY
  clear hY
  obtain ⟨m, hm⟩ : ∃ m, F.q.length = m := ⟨_, rfl⟩
  rw [hm] at d5 hlen hv
  have Hm := hide hm
  clear hm
  refine callsIn_of_wp Tryd.func37 rfl trivial ?_ rfl
  simp only [Tryd.ntmps37, List.size_toArray, List.length_cons, List.length_nil, Nat.reduceAdd, Nat.reduceSub, Array.replicate_succ, Array.replicate_zero, List.push_toArray, List.append_toArray, List.nil_append, List.cons_append]
  gi_wp2
  gi_loopw [10] (fun i wr => ∃ k : Nat, i = .int .i64 k ∧ k ≤ m ∧ J (F.q.take k) wr ∧ Sl wr 13 v F.q.length (itsC F.q)) (fun i _ => m - (intOf i).toNat)
  case atStart => exact ⟨0, rfl, Nat.zero_le _, h0, hS0⟩
  case round =>
    obtain ⟨k, rfl, hk, hJk, hSl⟩ := hrel
    by_cases hlt : k < m
    · obtain ⟨x, hx⟩ : ∃ x, F.q[k]? = some x := ⟨_, List.getElem?_eq_getElem (by have := unhide Hm; omega)⟩
      obtain ⟨g1, o1, cap1, hv1, _⟩ := hSl.addr (by rw [unhide Hm]; omega)
      obtain ⟨hA, _⟩ : A = some ⟨g1, o1, none⟩ ∧ True := by
        rw [hv] at hv1
        injection hv1 with h1 _ _
        exact ⟨h1, trivial⟩
      subst hA
      rw [hv] at hSl
      have hrange : wr.rangeAt g1 (o1 + k * 13) (itl x) := fun j u hj => by
        have hj13 : j < 13 := by
          have := (List.getElem?_eq_some_iff.1 hj).1
          simpa [itl_len] using this
        have h1 := (hSl.cells_at (by rw [unhide Hm]) (k * 13 + j) u (by rw [itsC_get hj13 hx]; exact hj))
        rw [Addr.add_mid] at h1
        rw [show o1 + k * 13 + j = o1 + (k * 13 + j) by omega]
        exact h1
      have hgl := (hSl.blk_lt (g := g1) rfl)
      have Hrange := hide hrange
      have HSl := hide hSl
      clear hrange hSl
      gi_wp2_with (first
        | refine listW_of rfl (by intro c hc; cases hc) fun K_ hK_ => wp_load_mid 38 _ rfl g1 (o1 + k * 13) rfl (itl x) _ (unhide Hrange) Tryd.underlying38 rfl (by kernel_rfl) (hK_ _ _ ?_)
        | (refine listW_of rfl (by intro c hc; cases hc) fun K_ hK_ => wp_store_mid 38 (.tmp 4) (.tmp 13) rfl wr.heap.size 0 (itl x).toArray rfl rfl (there_new _ _ _ rfl) (by kernel_rfl) (all_oneCell_toArray (itl_cell x)) (hK_ _ _ ?_)
           refine unhide ?_))
      have hN := (Heap.nil wr).clone #[.int .u64 0, .int .u32 0, .int .u32 0, .int .i64 0, .int .u64 0, .int .u64 0, .int .u64 0, .int .u64 0, .int .u64 0, .int .u64 0, .int .u64 0, .int .i64 0, .int .u64 0] 38 (itl x) rfl
      have hG := gn_of_below hN.below
      have hb4 := hN.heap
      have hl4 := lt_of_heap' hb4
      obtain ⟨kb, hkb⟩ : ∃ kb, wr.heap.size = kb := ⟨_, rfl⟩
      rw [hkb] at hG hb4 hl4 ⊢
      generalize (World.setCells (wr.alloc (.cells #[.int .u64 0, .int .u32 0, .int .u32 0, .int .i64 0, .int .u64 0, .int .u64 0, .int .u64 0, .int .u64 0, .int .u64 0, .int .u64 0, .int .u64 0, .int .i64 0, .int .u64 0] 38)) kb 0 (itl x)) = w2 at hG hb4 hl4 ⊢
      clear hN
      have hJ2 := hJ _ _ _ none hJk hG (fun r e => by cases e)
      have HSl := hide ((unhide HSl).gn hG)
      have hr4 := range_blk hb4 0 13 (itl x) rfl
      have Hr4 := hide hr4
      obtain ⟨fn, tmps, assign, body, hy, hR⟩ := unhide HY _ x w2 hJ2 (by rw [List.length_take]; have := unhide Hm; omega) (List.mem_of_getElem? hx)
      have HR := hide hR
      clear hG hr4 hJk hb4 Hrange hR
      refine hide ?_
      gi_wp2_with (refine listW_of rfl (by intro c hc; cases hc) fun K_ hK_ => wp_load_mid 38 _ rfl kb 0 rfl (itl x) _ (unhide Hr4) Tryd.underlying38 rfl (by kernel_rfl) (hK_ _ _ ?_))
      refine ⟨fun h_ => (by cases h_), (unhide HR).mono ?_⟩
      rintro e W3 (⟨rfl, hJ3, hk3⟩ | ⟨rfl, hJx3⟩)
      · have hS3 : Sl W3 13 v F.q.length (itsC F.q) := hk3 (by rw [hv]; exact unhide HSl)
        clear hk3 HR HSl
        gi_wp2
        go_roundw
        case rel => exact ⟨k + 1, by simp, by omega, by rw [take_snoc hx]; exact hJ3, hS3⟩
        case measure => simp [intOf]; omega
      · gi_wp2
        refine bodyPost_ret (results_none rfl _ _ _) rfl ?_
        exact ⟨⟨_, rfl⟩, .inr ⟨_, List.take_prefix (k + 1) _, by rw [take_snoc hx]; exact hJx3⟩⟩
    · obtain rfl : k = m := by omega
      gi_wp2
      go_end0
      exact ⟨⟨_, rfl⟩, .inl ⟨_, rfl, by rw [← unhide Hm, List.take_length] at hJk; exact hJk⟩⟩
abbrev ItI := { x : It // II x }
theorem items_stopsM {n box : Nat} {A : Option Addr} {cap : Nat} (hI : FI F) (hbox : w.cell? ⟨box, 0, none⟩ = some (.pointer (some ⟨b, 0, none⟩))) (hbl : box < w.heap.size) (hC : FC w b g F A cap) :
    SeqStopsK Fence.wide n Tryd.prog 37 #[.pointer (some ⟨box, 0, none⟩)] (fun x : ItI => #[Value.agg (itl x.1).toArray]) (KpS (.slice A F.q.length cap) F.q) (fun ys => ys.map (·.1) = F.q) (fun pre => pre.map (·.1) <+: F.q) F.q.length w := fun l J Jx W hW hJ _ hY h0 =>
  (items_iterM rfl (fun ys W => ∃ l : List ItI, l.map (·.1) = ys ∧ J l W) (fun ys W => ∃ l : List ItI, l.map (·.1) = ys ∧ Jx l W) (fun _ _ _ row ⟨l, e, h⟩ hg hr => ⟨l, e, hJ _ _ _ row h hg hr⟩)
    (fun pre x W1 ⟨l, e, h⟩ hlen hmem => by
      obtain ⟨fn, tmps, assign, body, hy, hR⟩ := hY l ⟨x, hI.all x hmem⟩ W1 h (by rw [← e] at hlen; simpa using hlen)
      refine ⟨fn, tmps, assign, body, hy, hR.mono ?_⟩
      rintro r w' (⟨h1, h2, h3⟩ | ⟨h1, h2⟩)
      · exact .inl ⟨h1, ⟨_, by simp [e], h2⟩, h3⟩
      · exact .inr ⟨h1, ⟨_, by simp [e], h2⟩⟩)
    ((hW.cell (p := ⟨box, 0, none⟩) hbl).trans hbox) (hC.gn (gn_of_below hW)) ⟨[], rfl, h0⟩).mono fun e W' h => ⟨h.1, h.2.elim (fun ⟨xs, h1, l, h2, h3⟩ => .inl ⟨l, h2.trans h1, h3⟩) (fun ⟨pre, h1, l, h2, h3⟩ => .inr ⟨l, by show List.map (·.1) l <+: F.q; rw [h2]; exact h1, h3⟩)⟩
end
set_option maxHeartbeats 4000000 in
theorem range_itemsM {γ : Type} {w0 W1 : World} {box b g : Nat} {F : Fr} {A : Option Addr} {cap : Nat} {gop : Operand} {p s : Tmp} {id : Nat} {o1 o2 : Oper} {body : Code} {Q : Exit → Act → World → Prop} {a : Act}
    (M : List It → List HP) (pI : List It → Prop) (px : Code → List It → γ → Prop) (Lx : γ → List HP)
    (hg : a.eval gop = .func (.func 37) #[] #[.pointer (some ⟨box, 0, none⟩)]) (hI : FI F)
    (ho1 : o1.op = .alloc 38) (hd1 : o1.dst = some s) (hg1 : o1.guard = none) (ho2 : o2.op = .store 38 (.tmp s) (.tmp p)) (hd2 : o2.dst = none) (hg2 : o2.guard = none)
    (hp : p < a.tmps.size) (hs : s < a.tmps.size) (hsp : s ≠ p)
    (hM : ∀ pre, CoB W1.heap.size (M pre)) (hLx : ∀ y, CoB W1.heap.size (Lx y)) (h0 : pI [])
    (hh : Heap w0 W1 (HP.blk box #[.pointer (some ⟨b, 0, none⟩)] 25 :: FB b g F (.slice A F.q.length cap) (M [])))
    (hbody : ∀ (l : Nat) (pre : List It) (x : It) (kx : Nat) (W : World), pI pre → pre.length < F.q.length → II x → W1.heap.size ≤ kx → W.heap[kx]? = some (.cells (itl x).toArray 38 (0, 0)) → Heap w0 W (HP.restB W1.heap.size W :: FB b g F (.slice A F.q.length cap) (M pre)) →
      body.wpIn (Fence.wide.inRound l) 4 Tryd.prog (roundPost W1.heap.size w0 b g F (.slice A F.q.length cap) M pI px Lx (pre ++ [x]) W) { tmps := (a.tmps.setIfInBounds p (.agg (itl x).toArray)).setIfInBounds s (.pointer (some ⟨kx, 0, none⟩)), defers := [] } W)
    (hdone : ∀ (D : Nat) (W : World), pI F.q → Heap w0 W (HP.obj D (.deferred (some [])) :: FB b g F (.slice A F.q.length cap) (M F.q)) → Q .normal { a with defers := { target := .collected D, args := #[] } :: a.defers } W)
    (hstop : ∀ (D : Nat) (cd : Code) (pre : List It) (y : γ) (W : World), px cd pre y → pre <+: F.q → Heap w0 W (HP.obj D (.deferred (some [])) :: Lx y) → cd.wpIn Fence.wide 6 Tryd.prog Q { a with defers := { target := .collected D, args := #[] } :: a.defers } W) :
    (Code.rangeFunc gop #[p] (Code.region id #[o1, o2] false) body).wp Tryd.prog Q a W1 := by
  have hB0 : w0.heap.size ≤ W1.heap.size := hh.below.size
  have hbc := hh.heap
  have hC1 : FC W1 b g F A cap := by
    have h2 := hh.tail
    unfold FB at h2
    exact ⟨h2.heap, lt_of_heap' h2.heap, h2.f2.slw, hI⟩
  refine (wpIn_wide (n := 6)).1 ?_
  refine wpIn_rangeFunc_ownH (F := Fence.wide) (n := 6) rfl (by decide) (gf := 37) (lb := #[.pointer (some ⟨box, 0, none⟩)]) hg trivial (enters_of Tryd.func37 (by kernel_rfl) rfl)
    (items_stopsM (n := 5) hI (cell1 hbc) (lt_of_heap' hbc) hC1) KpS.trans (fun W_ l_ o_ o'_ _ hl_ ho_ _ => KpS.put W_ l_ o_ o'_ hl_ ho_) (Below.refl _ _) (fun _ => rfl)
    (fun (pre : List ItI) W_ => pI (pre.map (·.1)) ∧ W1.heap.size ≤ W_.heap.size ∧ Heap w0 W_ (FB b g F (.slice A F.q.length cap) (M (pre.map (·.1)))))
    (fun cd (pre : List ItI) W_ => ∃ y, px cd (pre.map (·.1)) y ∧ Heap w0 W_ (Lx y))
    (OwnFrom.and ownFrom_const (OwnFrom.and (fun _ _ _ _ hs_ hg_ _ => Nat.le_trans hs_ hg_.size) (ownFrom_heapB hB0 fun pre => (hM _).fb))) (fun cd => ownFrom_ex fun y => OwnFrom.and ownFrom_const (ownFrom_heapB hB0 fun _ => hLx y))
    ⟨h0, Nat.le_refl _, hh.tail⟩
    (fun (x : ItI) a' W_ => ∃ kx, a' = { tmps := (a.tmps.setIfInBounds p (.agg (itl x.1).toArray)).setIfInBounds s (.pointer (some ⟨kx, 0, none⟩)), defers := [] } ∧ W1.heap.size ≤ kx ∧ W_.heap[kx]? = some (.cells (itl x.1).toArray 38 (0, 0)))
    (fun x a' _ W_ W'_ row hs_ hg_ hr_ => by
      obtain ⟨kx, h1, h2, h3⟩ := hs_
      exact ⟨kx, h1, h2, (hg_.block kx (lt_of_heap' h3) (fun e => by
        obtain ⟨_, o, h4, h5⟩ := hr_ kx e.symm
        rw [h3] at h4
        injection h4 with h4
        rw [← h4] at h5
        cases h5)).trans h3⟩)
    ?assign ?body ?done ?stop
  case assign =>
    rintro l pre x W K ⟨hp0, hz0, hI0⟩ hK
    have hG := gn_of_below (new_var (W := W) x.1).below
    refine wpIn_region_lit (l := [o1, o2]) ?_
    refine listIn_of hg1 (by rw [ho1]; intro c hc; cases hc) fun K1 hK1 => ?_
    have hal : ∀ (ρ : Operand → Value) (W : World), (execOp ρ (Oper.mk none (.alloc 38) 0 "" #[] none)).run Tryd.prog W = .ok (.value (.pointer (some ⟨W.heap.size, 0, none⟩))) (W.alloc (.cells #[.int .u64 0, .int .u32 0, .int .u32 0, .int .i64 0, .int .u64 0, .int .u64 0, .int .u64 0, .int .u64 0, .int .u64 0, .int .u64 0, .int .u64 0, .int .i64 0, .int .u64 0] 38)) := fun ρ W => by kernel_rfl
    have hr : ∀ (ρ : Operand → Value) (W : World), (execOp ρ o1).run Tryd.prog W = .ok (.value (.pointer (some ⟨W.heap.size, 0, none⟩))) (W.alloc (.cells #[.int .u64 0, .int .u32 0, .int .u32 0, .int .i64 0, .int .u64 0, .int .u64 0, .int .u64 0, .int .u64 0, .int .u64 0, .int .u64 0, .int .u64 0, .int .i64 0, .int .u64 0] 38)) := fun ρ W => by
      rw [← hal ρ W]
      unfold execOp
      rw [ho1]
    unfold Oper.wp
    rw [hr]
    show K1 (Act.put _ o1.dst _) _
    rw [hd1]
    refine hK1 _ _ ?_
    refine listIn_of hg2 (by rw [ho2]; intro c hc; cases hc) fun K2 hK2 => wp_store_mid 38 (.tmp s) (.tmp p) ho2 W.heap.size 0 (itl x.1).toArray ?_ ?_ (there_new _ _ _ rfl) (by kernel_rfl) (all_oneCell_toArray (itl_cell x.1)) (hK2 _ _ (wpListIn_nil ?_))
    · simp [Act.eval, Act.put, hs]
    · simp [Act.eval, Act.put, hp, hsp]
    · have hN := hI0.grown hG
      rw [hd2]
      refine hK _ _ (keeps_gn hG _) (KpS.gn hG) ⟨hp0, Nat.le_trans hz0 hG.size, hN⟩ ⟨W.heap.size, ?_, hz0, (new_var (W := W) x.1).heap⟩
      simp [Act.put]
  case body =>
    rintro l pre x a' W hl _ ⟨hp0, hz0, hI0⟩ ⟨kx, rfl, hkB, hkx⟩ hlt
    refine wpIn_mono (hbody l (pre.map (·.1)) x.1 kx W hp0 (by simpa using hlt) x.2 hkB hkx (Heap.restB (hM _).fb hI0)) ?_
    rw [show pre.map (·.1) ++ [x.1] = (pre ++ [x]).map (·.1) by simp]
    rintro e a3 W3 hpost
    cases e with
    | normal =>
      obtain ⟨hz, hp3, hh3⟩ := hpost
      have h4 := hh3.tail
      unfold FB at h4
      exact ⟨Heap.keepsB hz hh3, fun _ => h4.f2.slw, hp3, Nat.le_trans hz0 hz, hh3.tail⟩
    | ret =>
      obtain ⟨hz, y, hp3, hh3⟩ := hpost
      exact ⟨Heap.keepsB hz hh3, y, hp3, hh3.tail⟩
    | exit id =>
      obtain ⟨hz, y, hp3, hh3⟩ := hpost
      exact ⟨Heap.keepsB hz hh3, y, hp3, hh3.tail⟩
    | goto t => exact hpost.elim
    | panic c => exact hpost.elim
    | outgrown => exact hpost.elim
  case done =>
    rintro D ys W hD hys ⟨hp1, _, hI1⟩ hK
    rw [hys] at hp1 hI1
    exact hdone D W hp1 (Heap.addObj (hM _).fb hI1 hK rfl hB0 hD)
  case stop =>
    rintro D cd pre W hD hpre ⟨y, hp1, hI1⟩ hK
    exact hstop D cd _ y W hp1 hpre (Heap.addObj (hLx y) hI1 hK rfl hB0 hD)
end Go.Proofs.YtblbgalpkodibaaDoor
