import Derived.Test.YtehnppklfaoikaaProg
import Derived.Test.YtehnppklfaoikaaWWords
import Derived.Lib.SlBytesConst
/- A constant's bytes: the row that the literal laid is marked, and can still be read. -/
namespace Go.Proofs.Ytehnppklfaoikaa.H
open Go Go.RowKit Go.Lib Go.Proofs.YtehnppklfaoikaaW.PrintWords

theorem cell_freeze (w : World) (a : Addr) (n : Nat) (p : Addr) : (w.freeze a n).cell? p = w.cell? p := by
  unfold World.freeze
  by_cases hn : n = 0
  · rw [if_pos hn]
  · rw [if_neg hn]
    unfold World.cell?
    simp only [Array.getElem?_modify]
    by_cases hb : a.block = p.block
    · rw [if_pos hb]
      cases hk : w.heap[p.block]? with
      | none => rfl
      | some o => cases o <;> rfl
    · rw [if_neg hb]

theorem heap_freeze (w : World) (a : Addr) (n : Nat) (k : Nat) (h : k ≠ a.block) : (w.freeze a n).heap[k]? = w.heap[k]? := by
  unfold World.freeze
  by_cases hn : n = 0
  · rw [if_pos hn]
  · rw [if_neg hn]
    simp only [Array.getElem?_modify]
    rw [if_neg (fun e => h e.symm)]

theorem below_freeze {B : Nat} {w0 w : World} {a : Addr} {n : Nat} (h : Below B w0 w) (ha : B ≤ a.block) : Below B w0 (w.freeze a n) := by
  unfold World.freeze
  by_cases hn : n = 0
  · rw [if_pos hn]; exact h
  · rw [if_neg hn]
    refine ⟨h.os, h.tape, h.output, by simpa using h.size, fun k hk => ?_⟩
    simp only [Array.getElem?_modify]
    rw [if_neg (by omega)]
    exact h.block k hk

theorem conv_const {P : Program} {t e e' : TypeId} (ht : P.underlying t = some (.slice e)) (he : P.underlying e = some (.int .u8)) {w0 w : World} {base : Nat} {ok : Nat → Prop} {A : Option Addr} {n c : Nat} {xs : List Int}
    (h : Kd.R (Kd.int .u8) e' w base ok (.slice A n c) xs) (hne : 0 < n) (HB : Below base w0 w) :
    ∃ w', (convert t t (.slice A n c)).run P w = .ok (.slice A n c) w' ∧ Kd.C (Kd.int .u8) w' A xs.length xs ∧ n ≤ c ∧ Below base w0 w' ∧ ∀ k, some k ≠ (Value.slice A n c).ownBlock → w'.heap[k]? = w.heap[k]? := by
  obtain ⟨hn, hc, hr⟩ := Kd.R_reads' h
  obtain ⟨ad, eA, -⟩ := hr.2.2 (by omega)
  subst eA
  obtain ⟨inner, ho⟩ := Kd.R_own h
  obtain ⟨-, ⟨hv, -⟩ | ⟨g, cap, cur, hv, hb, hg, -⟩⟩ := ho
  · cases hv
  have eg : ad = ⟨g, 0, none⟩ := by injection hv with h1; injection h1
  subst eg
  refine ⟨w.freeze ⟨g, cur.size, none⟩ 1, ?_, ?_, hc, below_freeze HB hb, fun k hk => heap_freeze _ _ _ _ (fun e => hk (by rw [e]; rfl))⟩
  · have hsh : w.shape? g = some (e', cur.size) := by unfold World.shape?; rw [hg]
    simp [convert, run_underlying ht, run_underlying he, markStringish, hsh]
  · refine ⟨hr.1, hr.2.1, fun h0 => ?_⟩
    obtain ⟨ad, e1, hcell⟩ := hr.2.2 h0
    refine ⟨ad, e1, fun j p hp => ?_⟩
    obtain ⟨cs, h1, h2, h3⟩ := hcell j p hp
    exact ⟨cs, h1, h2, fun i u hu => by rw [cell_freeze]; exact h3 i u hu⟩

end Go.Proofs.Ytehnppklfaoikaa.H
