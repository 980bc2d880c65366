import Derived.Test.YtpljdaahkiabkaaProg
import Derived.WalkKit
import Derived.WalkLawsBesides
import Derived.WalkSpells
import Derived.Below
import Derived.Maps.Own
import Derived.Deep.Draws
/- Maps whose entries the text writes out, with whole numbers as keys: how they are made, written and asked. -/
namespace Go.Proofs.Ytpljdaahkiabkaa.H
open Go.RowKit Go.Maps

/-- The entries of a map literal: keys of one kind of whole numbers, none twice. -/
def ents (q : IntKind) : Nat → List (Int × Value) → List MapEntry
  | _, [] => []
  | n, p :: l => ⟨.int q p.1, p.2, n⟩ :: ents q (n + 1) l
def imap (q : IntKind) (l : List (Int × Value)) : Obj := .map (ents q 0 l).toArray l.length

theorem ents_append (q : IntKind) (p : Int × Value) : ∀ (l : List (Int × Value)) (n : Nat), ents q n (l ++ [p]) = ents q n l ++ [⟨.int q p.1, p.2, n + l.length⟩]
  | [], n => by simp [ents]
  | a :: l, n => by simp [ents, ents_append q p l (n + 1), Nat.add_assoc, Nat.add_comm 1]

def look : List (Int × Value) → Int → Option Value
  | [], _ => none
  | p :: l, a => if a = p.1 then some p.2 else look l a

theorem find_ents (q : IntKind) (a : Int) : ∀ (l : List (Int × Value)) (n i : Nat), (Instr.findNow (.int q) (.int q a) (ents q n l) i).map (·.map (·.2)) = some (look l a)
  | [], n, i => by simp [ents, Instr.findNow, look]
  | p :: l, n, i => by
    simp only [ents, Instr.findNow, Instr.sameNow, if_true, look]
    by_cases h : a = p.1
    · simp [h]
    · have : (a == p.1) = false := beq_eq_false_iff_ne.2 h
      simp only [this, if_neg h]
      exact find_ents q a l (n + 1) (i + 1)

section
variable {P : Program}

theorem run_made (t : TypeId) (q : IntKind) (w : World) : (Instr.makeMap t none).run P w = .ok (.map (some w.heap.size)) (w.alloc (imap q [])) := run_makeMap t w

theorem run_put (t K E : TypeId) (q : IntKind) (ht : P.underlying t = some (.map K E)) (hK : P.underlying K = some (.int q)) (W : World) (l : List (Int × Value)) (n : Nat) (hn : n = W.heap.size) (a : Int) (v : Value) (hf : look l a = none) :
    (Instr.mapUpdate t (.map (some n)) (.int q a) v).run P (W.alloc (imap q l)) = .ok () (W.alloc (imap q (l ++ [(a, v)]))) := by
  subst hn
  have hb : (W.alloc (imap q l)).heap[W.heap.size]? = some (.map (ents q 0 l).toArray l.length) := (MapKept.heap_alloc W _).1
  have hfind := find_ents q a l 0 0
  rw [hf] at hfind
  cases hx : Instr.findNow (.int q) (.int q a) (ents q 0 l) 0 with
  | none => rw [hx] at hfind; simp at hfind
  | some r =>
    rw [hx] at hfind
    cases r with
    | some z => simp at hfind
    | none =>
      have e : (W.alloc (imap q l)).heap.setIfInBounds W.heap.size (imap q (l ++ [(a, v)])) = (W.alloc (imap q (l ++ [(a, v)]))).heap := by
        show (W.heap.push (imap q l)).setIfInBounds W.heap.size _ = W.heap.push _
        apply Array.ext_getElem?
        intro i
        by_cases hi : i = W.heap.size
        · subst hi; simp
        · rw [Array.getElem?_setIfInBounds_ne (Ne.symm hi)]
          simp [Array.getElem?_push, hi]
      have hpush : (Obj.map ((ents q 0 l).toArray.push { key := .int q a, val := v, born := l.length }) (l.length + 1)) = imap q (l ++ [(a, v)]) := by
        unfold imap
        rw [ents_append]
        simp
      unfold Instr.mapUpdate
      simp only [Sem.run_bind, run_underlying ht, Result.andThen, MapKept.run_getObj_map hb, MapKept.run_checkKey hK (show MapKept.IsKey (.int q) (.int q a) from rfl), MapKept.run_findKey hK hx, MapKept.run_setObj_map _ hb]
      rw [hpush, e]
      rfl

/-- The object in a block, behind a word that simp leaves alone. -/
def objAt (W : World) (n : Nat) : Option Obj := W.heap[n]?
theorem objAt_alloc (W : World) (o : Obj) (n : Nat) : objAt (W.alloc o) n = if n = W.heap.size then some o else objAt W n := by
  show (W.heap.push o)[n]? = _
  simp [Array.getElem?_push, objAt]
theorem objAt_drew (W : World) (n : Nat) : objAt W.drew n = objAt W n := by unfold objAt; rw [show W.drew.heap = W.heap from rfl]
theorem objAt_drewN (W : World) (k n : Nat) : objAt (W.drewN k) n = objAt W n := by unfold objAt; rw [World.heap_drewN]
theorem objAt_setCell (W : World) (a : Addr) (v : Value) (n : Nat) (h : n ≠ a.block) : objAt (W.setCell a v) n = objAt W n := Below.heap_setCell W a v n h
theorem look_nil (a : Int) : look [] a = none := by rw [look]
theorem look_cons (p : Int × Value) (l : List (Int × Value)) (a : Int) : look (p :: l) a = if a = p.1 then some p.2 else look l a := by rw [look]

theorem run_look (t K E : TypeId) (q : IntKind) (ht : P.underlying t = some (.map K E)) (hK : P.underlying K = some (.int q)) (z : Value) (hz : ∀ W : World, (zeroValue E).run P W = .ok z W) (W : World) (r : Nat) (l : List (Int × Value)) (hb : objAt W r = some (imap q l)) (a : Int) (ok : Bool) :
    (Instr.lookup t (.map (some r)) (.int q a) ok).run P W = .ok (if ok then .tuple #[(look l a).getD z, .bool (look l a).isSome] else (look l a).getD z) W := by
  have hfind := find_ents q a l 0 0
  cases hx : Instr.findNow (.int q) (.int q a) (ents q 0 l) 0 with
  | none => rw [hx] at hfind; simp at hfind
  | some x =>
    rw [hx] at hfind
    have hb' : W.heap[r]? = some (.map (ents q 0 l).toArray l.length) := hb
    have hf' : Instr.findNow (.int q) (.int q a) ((ents q 0 l).toArray).toList 0 = some x := hx
    unfold Instr.lookup
    cases x with
    | none =>
      have hn : look l a = none := by simpa using hfind.symm
      simp only [Sem.run_bind, run_underlying ht, Result.andThen, MapKept.run_getObj_map hb', MapKept.run_checkKey hK (show MapKept.IsKey (.int q) (.int q a) from rfl), MapKept.run_findKey hK hf', hz, hn, Sem.run_pure]
      cases ok <;> rfl
    | some y =>
      obtain ⟨i, y⟩ := y
      have hn : look l a = some y := by simpa using hfind.symm
      simp only [Sem.run_bind, run_underlying ht, Result.andThen, MapKept.run_getObj_map hb', MapKept.run_checkKey hK (show MapKept.IsKey (.int q) (.int q a) from rfl), MapKept.run_findKey hK hf', hn, Sem.run_pure]
      cases ok <;> rfl
end
end Go.Proofs.Ytpljdaahkiabkaa.H
