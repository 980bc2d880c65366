import Derived.Test.YtehnppklfaoikaaHQu5
/- The queue beside rows of one's own: what QueueShares wants besides. -/
namespace Go.Proofs.Ytehnppklfaoikaa.L
open Go Go.RowKit Go.Proofs.Ytehnppklfaoikaa.H Go.Proofs.Ytehnppklfaoikaa.F Go.Proofs.YtehnppklfaoikaaW.PrintWords Go.Proofs.YtehnppklfaoikaaW.PrintLast Go.Proofs.YtehnppklfaoikaaW.PrintMore
set_option linter.unusedVariables false
set_option linter.unusedSimpArgs false

/-- A new row stands in the first one's place. -/
theorem St.new_in {W W1 : World} {base q : Nat} {x : QS} {vi vo v : Value} {li lo l : List Int} (h : St W base q x vi li vo lo) (hg : W.grownBy W1 none) (hr : Kd.R (Kd.int .u8) 5 W1 base (fun k => W.heap.size ≤ k) v l) : St W1 base q x v l vo lo := by
  obtain ⟨PQ, PI, PO, hq, hi, ho, d1, d2, d3⟩ := h
  have hk : Kept W W1 (fun _ => False) := Kept.of_grown hg (Kept.refl W _) (fun k h => by cases h)
  have hs := hg.size
  refine ⟨PQ, _, PO, hq.kept hk (fun h => h) (fun _ _ h => h), Kd.R_bound hr, Kd.R_grown ho hg (fun _ _ h => by cases h), fun k hk => ?_, ?_, fun k hk => ⟨(d3 k hk).1, Nat.lt_of_lt_of_le (d3 k hk).2 hs⟩⟩
  · obtain ⟨e1, e2, e3, e4⟩ := d1 k hk
    exact ⟨fun hp => absurd e4 (Nat.not_lt.2 hp.1), e2, e3, Nat.lt_of_lt_of_le e4 hs⟩
  · rintro k ⟨h1, h2, h3, _⟩
    exact ⟨fun hp => absurd (d3 k hp).2 (Nat.not_lt.2 h1), fun e => absurd hq.lt (Nat.not_lt.2 (e ▸ h1)), h3⟩

/-- An element of the first row, read and written. -/
theorem St.cell_in {W : World} {base q : Nat} {x : QS} {A : Option Addr} {n c : Nat} {vo : Value} {li lo : List Int} (h : St W base q x (.slice A n c) li vo lo) (i : Int) (h0 : 0 ≤ i) (hi : i < n) :
    ∃ g, A = some ⟨g, 0, none⟩ ∧ W.cell? ⟨g, i.toNat, none⟩ = some (.int .u8 (rdOf 0 li i)) ∧ W.frozen? ⟨g, i.toNat, none⟩ = false ∧ base ≤ g ∧ ∀ u, St (W.setCell ⟨g, i.toNat, none⟩ (.int .u8 u)) base q x (.slice A n c) (li.set i.toNat u) vo lo := by
  obtain ⟨PQ, PI, PO, hq, hr, ho, d1, d2, d3⟩ := h
  have hn := (Kd.R_reads' hr).1
  obtain ⟨g, cap, e, hg0, hg1, hgc⟩ := Kd.R_form hr (by omega)
  injection e with e1 e2 e3
  subst e1
  obtain ⟨hc, hz⟩ := Kd.R_celln 0 hr i h0 hi
  have hPg : PI g := hr.1 g rfl
  refine ⟨g, rfl, hc, hz, hg0, fun u => ?_⟩
  have hset := Kd.R_putn (enc := Value.int .u8) hr i u
  have hk : Kept W (W.setCell ⟨g, i.toNat, none⟩ (.int .u8 u)) PI := Kept.setCell (Kept.refl W PI) (.inl hPg) _
  have hs := hk.1
  exact ⟨PQ, PI, PO, hq.kept hk (fun h => (d2 q h).2.1 rfl) (fun k h => (d1 k h).1), hset, Kd.R_step ho (fun k hp hlt => hk.2 k hlt (fun h => (d2 k h).1 hp)), fun k hk => ⟨(d1 k hk).1, (d1 k hk).2.1, (d1 k hk).2.2.1, Nat.lt_of_lt_of_le (d1 k hk).2.2.2 hs⟩,
    fun k hk => ⟨(d2 k hk).1, (d2 k hk).2.1, Nat.lt_of_lt_of_le (d2 k hk).2.2 hs⟩, fun k hk => ⟨(d3 k hk).1, Nat.lt_of_lt_of_le (d3 k hk).2 hs⟩⟩
theorem St.cell_out {W : World} {base q : Nat} {x : QS} {A : Option Addr} {n c : Nat} {vi : Value} {li lo : List Int} (h : St W base q x vi li (.slice A n c) lo) (i : Int) (h0 : 0 ≤ i) (hi : i < n) :
    ∃ g, A = some ⟨g, 0, none⟩ ∧ W.cell? ⟨g, i.toNat, none⟩ = some (.int .u8 (rdOf 0 lo i)) ∧ W.frozen? ⟨g, i.toNat, none⟩ = false ∧ base ≤ g ∧ ∀ u, St (W.setCell ⟨g, i.toNat, none⟩ (.int .u8 u)) base q x vi li (.slice A n c) (lo.set i.toNat u) := by
  obtain ⟨g, h1, h2, h3, h4, h5⟩ := h.swap.cell_in i h0 hi
  exact ⟨g, h1, h2, h3, h4, fun u => (h5 u).swap⟩

/-- The first row is pushed. -/
theorem Push_own_St (w0 w : World) (q : Nat) (x : QS) (vo : Value) (li lo : List Int) (A : Option Addr) (c : Nat) (hB : Below w0.heap.size w0 w) (h : St w w0.heap.size q x (.slice A li.length c) li vo lo)
    (hn : (x.bs.length : Int) + li.length ≤ x.room) (hb : x.bs.length + li.length < 4294967296) :
    Calls Try.prog 13 #[.pointer (some ⟨q, 0, none⟩), .slice A li.length c] w fun e w' => e = .returned (.bool true) ∧ St w' w0.heap.size q ⟨x.bs ++ li, x.room, x.dr⟩ (.slice A li.length c) li vo lo ∧ Below w0.heap.size w0 w' := by
  obtain ⟨PQ, PI, PO, hq, hi, ho, d1, d2, d3⟩ := h
  refine (Push_ok w0 w q PQ x A li c hB hq (fun W hk => (Kd.R_reads' (Kd.R_step hi (fun k hp hlt => hk.2 k hlt (fun h => h.elim (fun h => (d1 k h).1 hp) (fun h => (d2 k hp).2.1 h))))).2.2) (Kd.R_reads' hi).2.1 hn hb).mono ?_
  rintro e w' ⟨rfl, hq', hb', hk⟩
  exact ⟨rfl, St.kept hi ho d1 d2 d3 hq' hk, hb'⟩

theorem drain_of (w0 w : World) (q : Nat) (room dr : Int) (a b : List Int) (P : Nat → Prop) (n : Int) (hn : n = a.length) (hB : Below w0.heap.size w0 w) (h : Qu w w0.heap.size q P ⟨a ++ b, room, dr⟩) (hb : a.length + b.length < 4294967296) :
    Calls Try.prog 15 #[.pointer (some ⟨q, 0, none⟩), .int .i64 n] w fun e w' => ∃ v, e = .returned v ∧ Kd.R (Kd.int .u8) 5 w' w0.heap.size (fun k => w.heap.size ≤ k) v a ∧
      Qu w' w0.heap.size q P ⟨b, room, dr⟩ ∧ Below w0.heap.size w0 w' ∧ Kept w w' (fun k => P k ∨ k = q) := by
  have hK : (min (max n 0) (((a ++ b).length : Nat) : Int)).toNat = a.length := by rw [List.length_append, hn]; omega
  refine (Drain_calls w0 w q P ⟨a ++ b, room, dr⟩ n hB h (by rw [List.length_append]; exact hb)).mono ?_
  rintro e w' ⟨v, rfl, h1, h2, h3, h4⟩
  dsimp only at h1 h2
  rw [hK, List.take_left] at h1
  rw [hK, List.drop_left] at h2
  exact ⟨v, rfl, h1, h2, h3, h4⟩
/-- What is drained is the second row then. -/
theorem Drain_out_St (w0 w : World) (q : Nat) (room dr : Int) (a b : List Int) (vi vo : Value) (li lo : List Int) (n : Int) (hn : n = a.length) (hB : Below w0.heap.size w0 w) (h : St w w0.heap.size q ⟨a ++ b, room, dr⟩ vi li vo lo) (hb : a.length + b.length < 4294967296) :
    Calls Try.prog 15 #[.pointer (some ⟨q, 0, none⟩), .int .i64 n] w fun e w' => ∃ A c, e = .returned (.slice A a.length c) ∧ St w' w0.heap.size q ⟨b, room, dr⟩ vi li (.slice A a.length c) a ∧ Below w0.heap.size w0 w' := by
  obtain ⟨PQ, PI, PO, hq, hi, ho, d1, d2, d3⟩ := h
  refine (drain_of w0 w q room dr a b PQ n hn hB hq hb).mono ?_
  rintro e w' ⟨v, rfl, hv, hq', hb', hk⟩
  obtain ⟨A, c, rfl⟩ := Kd.R_slice hv
  have hs := hk.1
  refine ⟨A, c, rfl, ⟨PQ, PI, _, hq', Kd.R_step hi (fun k hp hlt => hk.2 k hlt (fun h => h.elim (fun h => (d1 k h).1 hp) (fun h => (d2 k hp).2.1 h))), Kd.R_bound hv, ?_, ?_, ?_⟩, hb'⟩
  · intro k hk
    obtain ⟨e1, e2, e3, e4⟩ := d1 k hk
    exact ⟨e1, fun hp => absurd e4 (Nat.not_lt.2 hp.1), e3, Nat.lt_of_lt_of_le e4 hs⟩
  · intro k hk
    obtain ⟨e1, e2, e3⟩ := d2 k hk
    exact ⟨fun hp => absurd e3 (Nat.not_lt.2 hp.1), e2, Nat.lt_of_lt_of_le e3 hs⟩
  · rintro k ⟨h1, h2, h3, _⟩
    exact ⟨fun e => absurd hq.lt (Nat.not_lt.2 (e ▸ h1)), h3⟩
/-- All is drained. -/
theorem Drain_all_St (w0 w : World) (q : Nat) (x : QS) (vi vo : Value) (li lo : List Int) (n : Int) (hn : (x.bs.length : Int) ≤ n) (hB : Below w0.heap.size w0 w) (h : St w w0.heap.size q x vi li vo lo) (hb : x.bs.length < 4294967296) :
    Calls Try.prog 15 #[.pointer (some ⟨q, 0, none⟩), .int .i64 n] w fun e w' => ∃ A c, e = .returned (.slice A x.bs.length c) ∧ Kd.C (Kd.int .u8) w' A x.bs.length x.bs ∧ Below w0.heap.size w0 w' := by
  obtain ⟨PQ, PI, PO, hq, hi, ho, d1, d2, d3⟩ := h
  refine (Drain_calls w0 w q PQ x n hB hq hb).mono ?_
  rintro e w' ⟨v, rfl, hv, hq', hb', hk⟩
  rw [show (min (max n 0) (x.bs.length : Int)).toNat = x.bs.length by omega, List.take_length] at hv
  obtain ⟨A, c, rfl, hl, hc⟩ := Kd.R_reads hv
  exact ⟨A, c, rfl, hc, hb'⟩

end Go.Proofs.Ytehnppklfaoikaa.L
