/- Layer 23: the state: entries, habits; plain functions. -/
import Derived.Test.YtdmkgomcomcfhaaTools
namespace Go.Proofs.Ytdmkgomcomcfhaa
open Go.RowKit

structure Ent where
  tag : Int
  pc : Int
  store : Bool
  placed : Bool
  data : Bool
  read : Bool
  at_ : Int
  size : Int
  v : Int
def Ent.cs (e : Ent) : List Value := [.int .i64 e.tag, .int .u64 e.pc, .bool e.store, .bool e.placed, .bool e.data, .bool e.read, .int .u64 e.at_, .int .i64 e.size, .int .u64 e.v]
def Ent.fresh (tag pc : Int) (store : Bool) : Ent := ⟨tag, pc, store, false, false, false, 0, 0, 0⟩
/-- The places that may be: of a placed entry size is 1, 2, 4 or 8, and the address a multiple of it. -/
structure Ent.ok (e : Ent) : Prop where
  tag : -9223372036854775808 ≤ e.tag ∧ e.tag < 9223372036854775808
  pc : 0 ≤ e.pc ∧ e.pc < 18446744073709551616
  at_ : 0 ≤ e.at_ ∧ e.at_ < 18446744073709551616
  v : 0 ≤ e.v ∧ e.v < 18446744073709551616
  size : (e.placed = false ∧ e.size = 0) ∨ (e.placed = true ∧ (e.size = 1 ∨ e.size = 2 ∨ e.size = 4 ∨ e.size = 8) ∧ e.at_ % e.size = 0)
  read : e.read = true → e.store = false ∧ e.placed = true
  data : e.data = true → e.store = true
def Ent.has (e : Ent) (a : Int) : Bool := e.placed && decide ((a - e.at_) % 18446744073709551616 < e.size)
def Ent.ready (e : Ent) : Bool := if e.store then e.placed && e.data else e.read
def nLd (l : List Ent) : Nat := l.countP fun e => !e.store
def nSt (l : List Ent) : Nat := l.countP fun e => e.store
def findN (l : List Ent) (t : Int) : Option Nat := l.findIdx? fun e => decide (e.tag = t)
def optI : Option Nat → Int
  | none => -1
  | some n => n
/-- The last one ahead of n that gives the byte. -/
def giver (l : List Ent) (a : Int) : Nat → Option Nat
  | 0 => none
  | n + 1 => match l[n]? with
    | some e => if e.store && e.has a then some n else giver l a n
    | none => giver l a n
abbrev Hb := Nat → Int × Bool
def rowN (pc : Int) : Nat := (pc / 2 % 16).toNat
theorem rowN_lt (pc : Int) : rowN pc < 16 := by unfold rowN; omega
def setH (h : Hb) (n : Nat) (x : Int × Bool) : Hb := fun j => if j = n then x else h j
/-- The state of a queue. -/
structure Qs where
  l : List Ent
  h : Hb
def lastTag (l : List Ent) : Option Int := l.getLast?.map (·.tag)
def mayCome (l : List Ent) (tag : Int) (store : Bool) : Bool :=
  (match lastTag l with | none => true | some t => decide (t < tag)) && (if store then decide (nSt l < 8) else decide (nLd l < 8))
structure QI (q : Qs) : Prop where
  ok : ∀ e ∈ q.l, e.ok
  up : q.l.Pairwise fun a b => a.tag < b.tag
  ld : nLd q.l ≤ 8
  st : nSt q.l ≤ 8
  hb : ∀ j, 0 ≤ (q.h j).1 ∧ (q.h j).1 < 18446744073709551616
theorem cnt (l : List Ent) : nLd l + nSt l = l.length := by
  induction l with
  | nil => rfl
  | cons e l ih =>
    unfold nLd nSt at *
    simp only [List.countP_cons, List.length_cons]
    cases e.store <;> simp <;> omega
end Go.Proofs.Ytdmkgomcomcfhaa
