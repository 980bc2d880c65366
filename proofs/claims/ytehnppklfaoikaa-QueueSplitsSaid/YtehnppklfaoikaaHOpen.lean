import Derived.Test.YtehnppklfaoikaaWWords
import Derived.ProofKit
import Derived.OpenShut
import Derived.ChangeArms
import Derived.DataReads
/- What a law's arguments are, type by type: whatever reads as data of a type is of a kind (numbers, bools, strings, slices, structs). -/
namespace Go.Proofs.Ytehnppklfaoikaa.H
open Go.RowKit Go.Proofs.YtehnppklfaoikaaW.PrintWords

/-- Whatever reads as data of type t is of the kind d, and good. -/
def Opens {α : Type} (P : Program) (t : TypeId) (d : Kd α) (good : α → Prop) : Prop :=
  ∀ (H : Type) (enc : TypeId × Value → H) (w : World) (sp : Nat → Bool) (held : Bool) (fuel : Nat) (cs : List Value) (x : DataW H × List MemPlace), DataW.trod enc P w 0 sp held fuel t cs = some x → ∃ a : α, d.K w a cs ∧ good a
section
variable {P : Program} {t e : TypeId}

theorem opens_int {k : IntKind} (ht : P.underlying t = some (.int k)) : Opens P t (Kd.int k) (fun n => (Lit.int k n).wf = true) := by
  intro H enc w sp held fuel cs x h
  obtain ⟨n, rfl, _, hw⟩ := DataW.trod_int ht h
  exact ⟨n, rfl, hw⟩
theorem opens_bool (ht : P.underlying t = some .bool) : Opens P t Kd.bool (fun _ => True) := by
  intro H enc w sp held fuel cs x h
  obtain ⟨n, rfl, _⟩ := DataW.trod_bool ht h
  exact ⟨n, rfl, trivial⟩
theorem opens_string (ht : P.underlying t = some .string) : Opens P t Kd.string (fun s => s.size ≤ maxLen) := by
  intro H enc w sp held fuel cs x h
  obtain ⟨n, rfl, _, hw⟩ := DataW.trod_string ht h
  exact ⟨n, rfl, hw⟩

theorem list_of {α : Type} {R : Nat → α → Prop} : ∀ n : Nat, (∀ i, i < n → ∃ a, R i a) → ∃ l : List α, l.length = n ∧ ∀ j p, l[j]? = some p → R j p
  | 0, _ => ⟨[], rfl, fun j p h => by simp at h⟩
  | n + 1, h => by
    obtain ⟨l, hl, hr⟩ := list_of n (fun i hi => h i (by omega))
    obtain ⟨a, ha⟩ := h n (by omega)
    refine ⟨l ++ [a], by simp [hl], fun j p hp => ?_⟩
    rcases Nat.lt_or_ge j l.length with hj | hj
    · rw [List.getElem?_append_left hj] at hp
      exact hr j p hp
    · have hj' : j = n := by
        have := (List.getElem?_eq_some_iff.1 hp).1
        simp at this
        omega
      subst hj'
      rw [← hl] at hp
      simp at hp
      subst hp
      exact ha

theorem opens_slice {α : Type} {d : Kd α} {good : α → Prop} (ht : P.underlying t = some (.slice e)) (hs : P.cellsOf e = d.sz) (h1 : Opens P e d good) : Opens P t (Kd.slice e d) (fun xs => ∀ x ∈ xs, good x) := by
  intro H enc w sp held fuel cs x h
  rcases DataW.trod_slice ht h with ⟨rfl, _⟩ | ⟨a, len, cap, elems, rest, n, _, rfl, _, _, hl, hm, hlen, hel, _⟩
  · exact ⟨[], ⟨none, 0, rfl, Nat.le_refl _, Kd.C_nil d w⟩, fun x hx => by simp at hx⟩
  · have each : ∀ i, i < len → ∃ p : α, good p ∧ ∃ c : List Value, c.length = d.sz ∧ d.K w p c ∧ ∀ j u, c[j]? = some u → w.cell? (a.add (i * d.sz + j)) = some u := by
      intro i hi
      have hb := hel i hi
      rw [List.getElem?_eq_getElem (show i < elems.length by omega), Option.bind_eq_some_iff] at hb
      obtain ⟨c, hc, htr⟩ := hb
      obtain ⟨p, hK, hg⟩ := h1 H enc w sp held n c _ htr
      obtain ⟨_, hcl, hcell⟩ := World.cells?_some hc
      refine ⟨p, hg, c, d.K_len hK, hK, fun j u hu => ?_⟩
      have hj : j < P.cellsOf e := by
        have := (List.getElem?_eq_some_iff.1 hu).1
        omega
      have := hcell j hj
      rw [Addr.add_add, hs] at this
      rw [this, hu]
    obtain ⟨l, hl', hr⟩ := list_of (R := fun i p => good p ∧ ∃ c : List Value, c.length = d.sz ∧ d.K w p c ∧ ∀ j u, c[j]? = some u → w.cell? (a.add (i * d.sz + j)) = some u) len each
    subst hl'
    refine ⟨l, ⟨some a, cap, rfl, hl, ⟨rfl, ?_, fun _ => ⟨a, rfl, fun j p hp => (hr j p hp).2⟩⟩⟩, fun x hx => ?_⟩
    · unfold maxLen at hm
      omega
    · obtain ⟨i, hi⟩ := List.getElem?_of_mem hx
      exact (hr i x hi).1

/-- The same of a struct's fields from one on: o, where it begins; n, where the last ends. -/
def OpensF {α : Type} (P : Program) (o n : Nat) (fs : List Field) (d : Kd α) (good : α → Prop) : Prop :=
  ∀ (H : Type) (enc : TypeId × Value → H) (w : World) (sp : Nat → Bool) (held : Bool) (fuel : Nat) (cs : List Value) (xs : List (DataW H × List MemPlace)), cs.length = n →
    (∀ (i : Nat) (f : Field), fs[i]? = some f → DataW.trod enc P w 0 sp held fuel f.type ((cs.drop f.offset).take (P.cellsOf f.type)) = xs[i]?) → fs.length = xs.length → ∃ a : α, d.K w a (cs.drop o) ∧ good a

theorem opensF_last {α : Type} {d : Kd α} {good : α → Prop} {f : Field} {o n : Nat} (h1 : Opens P f.type d good) (hs : P.cellsOf f.type = d.sz) (ho : f.offset = o) (hn : n = o + d.sz) : OpensF P o n [f] d good := by
  intro H enc w sp held fuel cs xs hc h hl
  have h0 := h 0 f rfl
  rw [List.getElem?_eq_getElem (show 0 < xs.length by simp at hl; omega), ho, hs] at h0
  have e : (cs.drop o).take d.sz = cs.drop o := List.take_of_length_le (by rw [List.length_drop]; omega)
  rw [e] at h0
  exact h1 H enc w sp held fuel _ _ h0
theorem opensF_cons {α β : Type} {d : Kd α} {d' : Kd β} {good : α → Prop} {good' : β → Prop} {f : Field} {fs : List Field} {o n : Nat} (h1 : Opens P f.type d good) (hs : P.cellsOf f.type = d.sz) (ho : f.offset = o) (hn : OpensF P (o + d.sz) n fs d' good') :
    OpensF P o n (f :: fs) (Kd.pair d d') (fun p => good p.1 ∧ good' p.2) := by
  intro H enc w sp held fuel cs xs hc h hl
  have h0 := h 0 f rfl
  rw [List.getElem?_eq_getElem (show 0 < xs.length by simp at hl; omega), ho, hs] at h0
  obtain ⟨a, hK, hg⟩ := h1 H enc w sp held fuel _ _ h0
  obtain ⟨b, hK', hg'⟩ := hn H enc w sp held fuel cs xs.tail hc (fun i f' hf => by
    have := h (i + 1) f' (by simpa using hf)
    rw [this]
    cases xs <;> simp) (by cases xs <;> simp at hl ⊢; omega)
  refine ⟨(a, b), ⟨_, _, ?_, hK, hK'⟩, hg, hg'⟩
  rw [← List.drop_drop]
  exact (List.take_append_drop _ _).symm

theorem opens_struct {α : Type} {d : Kd α} {good : α → Prop} {fs : Array Field} {n : Nat} (ht : P.underlying t = some (.struct fs)) (hn : P.cellsOf t = n) {l : List Field} (hl : fs.toList = l) (h : OpensF P 0 n l d good) : Opens P t d good := by
  intro H enc w sp held fuel cs x hx
  obtain ⟨xs, m, _, _, hc, hlen, hf⟩ := DataW.trod_struct ht hx
  have := h H enc w sp held m cs xs (hc.trans hn) (fun i f hi => hf i f (by rw [← hl] at hi; simpa using hi)) (by rw [← hl]; simpa using hlen.symm)
  simpa using this
theorem opens_iso {α β : Type} {d : Kd α} {good : α → Prop} {f : β → α} (g : α → β) (hfg : ∀ a, f (g a) = a) (h : Opens P t d good) : Opens P t (Kd.iso d f) (fun b => good (f b)) := by
  intro H enc w sp held fuel cs x hx
  obtain ⟨a, hK, hg⟩ := h H enc w sp held fuel cs x hx
  exact ⟨g a, by show d.K w (f (g a)) cs; rw [hfg]; exact hK, by show good (f (g a)); rw [hfg]; exact hg⟩
/-- An array of two. -/
theorem opens_array2 {α : Type} {d : Kd α} {good : α → Prop} (ht : P.underlying t = some (.array 2 e)) (hs : P.cellsOf e = d.sz) (hn : P.cellsOf t = d.sz + d.sz) (h1 : Opens P e d good) : Opens P t (Kd.pair d d) (fun p => good p.1 ∧ good p.2) := by
  intro H enc w sp held fuel cs x hx
  obtain ⟨xs, m, _, _, hc, hlen, hf⟩ := DataW.trod_array ht hx
  have h0 := hf 0 (by omega)
  have h2 := hf 1 (by omega)
  rw [List.getElem?_eq_getElem (by omega), hs] at h0 h2
  simp only [Nat.zero_mul, List.drop_zero, Nat.one_mul] at h0 h2
  have e2 : (cs.drop d.sz).take d.sz = cs.drop d.sz := List.take_of_length_le (by rw [List.length_drop]; omega)
  rw [e2] at h2
  obtain ⟨a, ha, ga⟩ := h1 H enc w sp held m _ _ h0
  obtain ⟨b, hb, gb⟩ := h1 H enc w sp held m _ _ h2
  exact ⟨(a, b), ⟨_, _, (List.take_append_drop _ _).symm, ha, hb⟩, ga, gb⟩
end

theorem okWide_array {P : Program} {w : World} {r : Reach} {base n : Nat} {t e : TypeId} {v : Value} (ht : P.underlying t = some (.array n e)) (h : Value.okWide P w r base t v) : ∃ cs, v = .agg cs ∧ cs.size = P.cellsOf t := by
  simp only [Value.okWide, ht] at h
  obtain ⟨cs, h1, h2, _⟩ := h
  exact ⟨cs, h1, h2⟩
/-- An argument that is one cell, or a struct by value. -/
theorem opens_arg {α : Type} {P : Program} {t : TypeId} {d : Kd α} {good : α → Prop} (h : Opens P t d good) {H : Type} {enc : TypeId × Value → H} {w : World} {sp : Nat → Bool} {held : Bool} {v : Value} {x : DataW H} {p : List MemPlace} (hT : DataW.Trod enc P w 0 sp held t v x p) : ∃ a : α, d.K w a v.cells.toList ∧ good a := by
  obtain ⟨fuel, hf⟩ := hT
  exact h H enc w sp held fuel _ _ hf
end Go.Proofs.Ytehnppklfaoikaa.H
