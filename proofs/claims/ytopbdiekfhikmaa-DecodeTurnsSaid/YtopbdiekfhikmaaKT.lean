/- Layer 3: the plain law: another target register. -/
import Derived.Test.YtopbdiekfhikmaaE8
namespace Go.Proofs.Ytopbdiekfhikmaa
open Go.RowKit
def writes (k : Int) : Prop := k = 1 ∨ k = 2 ∨ k = 3 ∨ k = 4 ∨ k = 11 ∨ (13 ≤ k ∧ k ≤ 30) ∨ (35 ≤ k ∧ k ≤ 48) ∨ (53 ≤ k ∧ k ≠ 54)
def TR (rd rd' : Int) (x y : Ins) : Prop := writes x.kind → x.rd = rd ∧ y = {x with rd := rd'}
theorem TR.no {rd rd' : Int} {x y : Ins} (h : ¬ writes x.kind) : TR rd rd' x y := fun h' => absurd h' h
theorem TR.nul {rd rd' : Int} {y : Ins} : TR rd rd' zero y := TR.no (by unfold writes zero; simp)
theorem TR.yes {rd rd' : Int} {k r1 r2 r3 rm c sz i : Int} {ui us wd : Bool} : TR rd rd' ⟨k, rd, r1, r2, r3, rm, c, sz, i, ui, us, wd⟩ ⟨k, rd', r1, r2, r3, rm, c, sz, i, ui, us, wd⟩ := fun _ => ⟨rfl, rfl⟩
theorem TR.ite {rd rd' : Int} {c : Prop} [Decidable c] {x y x' y' : Ins} (h1 : c → TR rd rd' x x') (h2 : ¬ c → TR rd rd' y y') : TR rd rd' (if c then x else y) (if c then x' else y') := by
  split
  · exact h1 ‹_›
  · exact h2 ‹_›
theorem tr_round {rd rd' : Int} (f : Nat) {x y : Ins} (h : writes x.kind) (hx : TR rd rd' x y) : TR rd rd' (roundN f x) (roundN f y) := by
  obtain ⟨h1, h2⟩ := hx h
  subst h2
  unfold roundN
  refine TR.ite (fun _ => TR.nul) (fun _ _ => ⟨h1, rfl⟩)
theorem tr_reg (rd rd' : Nat) (f g r1 r2 : Nat) (s : Bool) : TR rd rd' (regK f g rd r1 r2 s) (regK f g rd' r1 r2 s) := by
  unfold regK regX
  repeat' (first | refine TR.ite (fun _ => ?_) (fun _ => ?_) | exact TR.yes | exact TR.nul)
theorem tr_imm (rd rd' : Nat) (f h sh r1 : Nat) (i : Int) (s : Bool) : TR rd rd' (immK f h sh rd r1 i s) (immK f h sh rd' r1 i s) := by
  unfold immK immX
  repeat' (first | refine TR.ite (fun _ => ?_) (fun _ => ?_) | exact TR.yes | exact TR.nul)
theorem tr_sys (rd rd' : Nat) (b b' f g g' r1 r2 c : Nat) : TR rd rd' (sysK b f g rd r1 r2 c) (sysK b' f g' rd' r1 r2 c) := by
  unfold sysK
  refine TR.ite (fun _ => TR.nul) (fun _ => TR.ite (fun _ => TR.yes) (fun _ => TR.ite (fun _ => TR.yes) (fun _ => ?_)))
  apply TR.no
  repeat' split
  all_goals (unfold writes; first | (simp; done) | (simp [zero]; done))
theorem tr_atom (rd rd' : Nat) (f h r1 r2 : Nat) : TR rd rd' (atomI f h rd r1 r2) (atomI f h rd' r1 r2) := by
  unfold atomI
  exact TR.ite (fun _ => TR.nul) (fun _ => TR.yes)
theorem tr_oper (rd rd' : Nat) (f h s r1 r2 : Nat) (sz : Int) : TR rd rd' (operK f h s rd r1 r2 sz) (operK f h s rd' r1 r2 sz) := by
  unfold operK opX
  repeat' (first | refine TR.ite (fun _ => ?_) (fun _ => ?_) | exact TR.yes | exact TR.nul | (refine tr_round f ?_ TR.yes; unfold writes; simp only []; omega))
theorem tr_float (rd rd' : Nat) (op f l h s r1 r2 : Nat) (iI iS iS' : Int) : TR rd rd' (floK op f l h s rd r1 r2 iI iS) (floK op f l h s rd' r1 r2 iI iS') := by
  unfold floK
  refine TR.ite (fun _ => TR.ite (fun _ => TR.yes) (fun _ => TR.nul)) (fun _ => TR.ite (fun _ => TR.ite (fun _ => TR.no (by unfold writes; simp)) (fun _ => TR.nul)) (fun _ => TR.ite (fun _ => TR.nul) (fun _ => TR.ite (fun _ => tr_round f ?_ TR.yes) (fun _ => TR.ite (fun _ => tr_oper _ _ _ _ _ _ _ _) (fun _ => TR.nul)))))
  unfold writes; simp only []; omega
theorem tr_fall {rd rd' : Int} {x y : Ins} (h : TR rd rd' x y) : TR rd rd' (fallN x) (fallN y) := by
  unfold fallN
  split
  · exact TR.nul
  · rename_i hk
    intro hw
    obtain ⟨h1, h2⟩ := h hw
    subst h2
    rw [if_neg hk]
    exact ⟨h1, rfl⟩
theorem brK_no (f : Nat) : ¬ writes (brK f) := by
  unfold brK writes
  split <;> simp
theorem fdc {b b' rd : Nat} (hb : b' = b / 4096 * 4096 + rd * 128 + b % 128) (hr : rd < 32) : fd b' 7 5 = rd ∧ fd b' 0 7 = fd b 0 7 ∧ fd b' 12 3 = fd b 12 3 ∧ fd b' 15 5 = fd b 15 5 ∧ fd b' 20 5 = fd b 20 5 ∧ fd b' 25 2 = fd b 25 2 ∧ fd b' 27 5 = fd b 27 5 ∧ fd b' 26 6 = fd b 26 6 ∧ fd b' 20 6 = fd b 20 6 ∧ fd b' 25 7 = fd b 25 7 ∧ fd b' 20 12 = fd b 20 12 ∧ fd b' 12 20 = fd b 12 20 ∧ fd b' 31 1 = fd b 31 1 ∧ fd b' 12 8 = fd b 12 8 ∧ fd b' 20 1 = fd b 20 1 ∧ fd b' 21 10 = fd b 21 10 := by
  subst hb
  unfold fd
  refine ⟨?_, ?_, ?_, ?_, ?_, ?_, ?_, ?_, ?_, ?_, ?_, ?_, ?_, ?_, ?_, ?_⟩ <;> simp only [Nat.reducePow] <;> omega
theorem tr_dec {b b' rd : Nat} (hb : b' = b / 4096 * 4096 + rd * 128 + b % 128) (hr : rd < 32) : TR (fd b 7 5 : Nat) rd (decN b) (decN b') := by
  obtain ⟨e0, e1, e2, e3, e4, e5, e6, e7, e8, e9, e10, e11, e12, e13, e14, e15⟩ := fdc hb hr
  have hI : immI b' = immI b := by unfold immI; rw [e10]
  have hU : immU b' = immU b := by unfold immU; rw [e11]
  have hJ : immJ b' = immJ b := by unfold immJ; rw [e12, e13, e14, e15]
  have hF : TR (fd b 7 5 : Nat) rd (floatN b) (floatN b') := by
    unfold floatN
    rw [e0, e1, e2, e3, e4, e5, e6, hI]
    exact tr_float _ _ _ _ _ _ _ _ _ _ _ _
  have hf := tr_fall hF
  unfold decN decK
  rw [e0, e1, e2, e3, e4, e6, e7, e8, e9, e10, hI, hU, hJ]
  refine TR.ite (fun _ => TR.yes) (fun _ => TR.ite (fun _ => TR.yes) (fun _ => TR.ite (fun _ => TR.yes) (fun _ => TR.ite (fun _ => TR.ite (fun _ => TR.yes) (fun _ => hf)) (fun _ => TR.ite (fun _ => TR.ite (fun _ => TR.no (brK_no _)) (fun _ => hf)) (fun _ => TR.ite (fun _ => TR.ite (fun _ => TR.yes) (fun _ => hf)) (fun _ => TR.ite (fun _ => TR.ite (fun _ => TR.no (by unfold writes; simp)) (fun _ => hf)) (fun _ => TR.ite (fun _ => tr_imm _ _ _ _ _ _ _ _) (fun _ => TR.ite (fun _ => tr_imm _ _ _ _ _ _ _ _) (fun _ => TR.ite (fun _ => tr_reg _ _ _ _ _ _ _) (fun _ => TR.ite (fun _ => tr_reg _ _ _ _ _ _ _) (fun _ => TR.ite (fun _ => TR.ite (fun _ => TR.no ?_) (fun _ => hf)) (fun _ => TR.ite (fun _ => tr_sys _ _ _ _ _ _ _ _ _ _) (fun _ => TR.ite (fun _ => tr_atom _ _ _ _ _ _) (fun _ => hf))))))))))))))
  unfold writes; simp only []; omega
end Go.Proofs.Ytopbdiekfhikmaa
