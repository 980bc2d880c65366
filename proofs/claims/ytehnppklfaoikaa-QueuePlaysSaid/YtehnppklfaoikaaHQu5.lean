import Derived.Test.YtehnppklfaoikaaL2
/- The queue beside two rows of one's own, all apart; and two queues. -/
namespace Go.Proofs.Ytehnppklfaoikaa.L
open Go Go.RowKit Go.Proofs.Ytehnppklfaoikaa.H Go.Proofs.Ytehnppklfaoikaa.F Go.Proofs.YtehnppklfaoikaaW.PrintWords Go.Proofs.YtehnppklfaoikaaW.PrintLast Go.Proofs.YtehnppklfaoikaaW.PrintMore
set_option linter.unusedVariables false
set_option linter.unusedSimpArgs false

/-- A queue and two rows, all apart. -/
def St (W : World) (base q : Nat) (x : QS) (vi : Value) (li : List Int) (vo : Value) (lo : List Int) : Prop :=
  ∃ PQ PI PO : Nat → Prop, Qu W base q PQ x ∧ Kd.R (Kd.int .u8) 5 W base PI vi li ∧ Kd.R (Kd.int .u8) 5 W base PO vo lo ∧
    (∀ k, PQ k → ¬ PI k ∧ ¬ PO k ∧ base ≤ k ∧ k < W.heap.size) ∧ (∀ k, PI k → ¬ PO k ∧ k ≠ q ∧ k < W.heap.size) ∧ (∀ k, PO k → k ≠ q ∧ k < W.heap.size)

theorem St.start {W : World} {base q : Nat} {x : QS} (h : Qu W base q (fun _ => False) x) : St W base q x (.slice none 0 0) [] (.slice none 0 0) [] :=
  ⟨fun _ => False, fun _ => False, fun _ => False, h, Kd.R_nil _ _ _ _ _, Kd.R_nil _ _ _ _ _, fun _ h => h.elim, fun _ h => h.elim, fun _ h => h.elim⟩
theorem St.swap {W : World} {base q : Nat} {x : QS} {vi vo : Value} {li lo : List Int} (h : St W base q x vi li vo lo) : St W base q x vo lo vi li := by
  obtain ⟨PQ, PI, PO, hq, hi, ho, d1, d2, d3⟩ := h
  exact ⟨PQ, PO, PI, hq, ho, hi, fun k hk => ⟨(d1 k hk).2.1, (d1 k hk).1, (d1 k hk).2.2⟩, fun k hk => ⟨fun h => (d2 k h).1 hk, d3 k hk⟩, fun k hk => (d2 k hk).2⟩
theorem St.below {W W1 : World} {base q : Nat} {x : QS} {vi vo : Value} {li lo : List Int} (h : St W base q x vi li vo lo) (hb : Below W.heap.size W W1) : St W1 base q x vi li vo lo := by
  obtain ⟨PQ, PI, PO, hq, hi, ho, d1, d2, d3⟩ := h
  have hs := hb.size
  exact ⟨PQ, PI, PO, hq.below hb, Kd.R_below hi hb, Kd.R_below ho hb, fun k hk => ⟨(d1 k hk).1, (d1 k hk).2.1, (d1 k hk).2.2.1, Nat.lt_of_lt_of_le (d1 k hk).2.2.2 hs⟩,
    fun k hk => ⟨(d2 k hk).1, (d2 k hk).2.1, Nat.lt_of_lt_of_le (d2 k hk).2.2 hs⟩, fun k hk => ⟨(d3 k hk).1, Nat.lt_of_lt_of_le (d3 k hk).2 hs⟩⟩
theorem St.ci {W : World} {base q : Nat} {x : QS} {vi vo : Value} {li lo : List Int} (h : St W base q x vi li vo lo) : ∃ A c, vi = .slice A li.length c ∧ Kd.C (Kd.int .u8) W A li.length li := by
  obtain ⟨PQ, PI, PO, hq, hi, ho, d1, d2, d3⟩ := h
  obtain ⟨A, c, e, hl, hc⟩ := Kd.R_reads hi
  exact ⟨A, c, e, hc⟩
theorem St.ci_ {W : World} {base q : Nat} {x : QS} {A : Option Addr} {n c : Nat} {vo : Value} {li lo : List Int} (h : St W base q x (.slice A n c) li vo lo) : n = li.length ∧ Kd.C (Kd.int .u8) W A li.length li := by
  obtain ⟨A1, c1, e, hc⟩ := h.ci
  injection e with e1 e2 e3
  subst e1
  exact ⟨e2, hc⟩
theorem St.co {W : World} {base q : Nat} {x : QS} {vi vo : Value} {li lo : List Int} (h : St W base q x vi li vo lo) : ∃ A c, vo = .slice A lo.length c ∧ Kd.C (Kd.int .u8) W A lo.length lo := h.swap.ci
theorem St.co_ {W : World} {base q : Nat} {x : QS} {A : Option Addr} {n c : Nat} {vi : Value} {li lo : List Int} (h : St W base q x vi li (.slice A n c) lo) : n = lo.length ∧ Kd.C (Kd.int .u8) W A lo.length lo := h.swap.ci_
theorem St.q_ {W : World} {base q : Nat} {x : QS} {vi vo : Value} {li lo : List Int} (h : St W base q x vi li vo lo) : ∃ P, Qu W base q P x := by
  obtain ⟨PQ, PI, PO, hq, hi, ho, d1, d2, d3⟩ := h
  exact ⟨PQ, hq⟩
theorem St.kept {W W1 : World} {base q : Nat} {x1 : QS} {vi vo : Value} {li lo : List Int} {PQ PI PO : Nat → Prop} (hi : Kd.R (Kd.int .u8) 5 W base PI vi li) (ho : Kd.R (Kd.int .u8) 5 W base PO vo lo)
    (d1 : ∀ k, PQ k → ¬ PI k ∧ ¬ PO k ∧ base ≤ k ∧ k < W.heap.size) (d2 : ∀ k, PI k → ¬ PO k ∧ k ≠ q ∧ k < W.heap.size) (d3 : ∀ k, PO k → k ≠ q ∧ k < W.heap.size)
    (hq : Qu W1 base q (fun k => PQ k ∨ W.heap.size ≤ k) x1) (hk : Kept W W1 (fun k => PQ k ∨ k = q)) : St W1 base q x1 vi li vo lo := by
  have hs := hk.1
  refine ⟨_, PI, PO, hq.bound, Kd.R_step hi (fun k hp hlt => hk.2 k hlt ?_), Kd.R_step ho (fun k hp hlt => hk.2 k hlt ?_), ?_, fun k hp => ⟨(d2 k hp).1, (d2 k hp).2.1, Nat.lt_of_lt_of_le (d2 k hp).2.2 hs⟩, fun k hp => ⟨(d3 k hp).1, Nat.lt_of_lt_of_le (d3 k hp).2 hs⟩⟩
  · rintro (h | h)
    · exact (d1 k h).1 hp
    · exact (d2 k hp).2.1 h
  · rintro (h | h)
    · exact (d1 k h).2.1 hp
    · exact (d3 k hp).1 h
  · rintro k ⟨h | h, h1, h2⟩
    · exact ⟨(d1 k h).1, (d1 k h).2.1, h1, h2⟩
    · exact ⟨fun hp => absurd (d2 k hp).2.2 (Nat.not_lt.2 h), fun hp => absurd (d3 k hp).2 (Nat.not_lt.2 h), h1, h2⟩

theorem Push_ok_St (w0 w : World) (q : Nat) (x : QS) (vi vo : Value) (li lo : List Int) (A : Option Addr) (l : List Int) (c : Nat) (hB : Below w0.heap.size w0 w) (h : St w w0.heap.size q x vi li vo lo)
    (hr : Kd.C (Kd.int .u8) w0 A l.length l) (hc : l.length ≤ c) (hn : (x.bs.length : Int) + l.length ≤ x.room) (hb : x.bs.length + l.length < 4294967296) :
    Calls Try.prog 13 #[.pointer (some ⟨q, 0, none⟩), .slice A l.length c] w fun e w' => e = .returned (.bool true) ∧ St w' w0.heap.size q ⟨x.bs ++ l, x.room, x.dr⟩ vi li vo lo ∧ Below w0.heap.size w0 w' := by
  obtain ⟨PQ, PI, PO, hq, hi, ho, d1, d2, d3⟩ := h
  refine (Push_ok w0 w q PQ x A l c hB hq (read_old hr hB hq.1 (fun k hk => (d1 k hk).2.2.1)) hc hn hb).mono ?_
  rintro e w' ⟨rfl, hq', hb', hk⟩
  exact ⟨rfl, St.kept hi ho d1 d2 d3 hq' hk, hb'⟩
theorem Push_big_St (w0 w : World) (q : Nat) (x : QS) (vi vo : Value) (li lo : List Int) (A : Option Addr) (n c : Nat) (hB : Below w0.heap.size w0 w) (h : St w w0.heap.size q x vi li vo lo)
    (hn : x.room < (x.bs.length : Int) + n) (hb : x.bs.length + n < 4294967296) :
    Calls Try.prog 13 #[.pointer (some ⟨q, 0, none⟩), .slice A n c] w fun e w' => e = .returned (.bool false) ∧ St w' w0.heap.size q ⟨x.bs, x.room, wrap64 (x.dr + 1)⟩ vi li vo lo ∧ Below w0.heap.size w0 w' := by
  obtain ⟨PQ, PI, PO, hq, hi, ho, d1, d2, d3⟩ := h
  refine (Push_big w0 w q PQ x A n c hB hq hn hb).mono ?_
  rintro e w' ⟨rfl, hq', hb', hk⟩
  exact ⟨rfl, St.kept hi ho d1 d2 d3 (hq'.mono (fun _ h => .inl h)) hk, hb'⟩
theorem Len_St (w : World) (base q : Nat) (x : QS) (vi vo : Value) (li lo : List Int) (h : St w base q x vi li vo lo) :
    Calls Try.prog 17 #[.pointer (some ⟨q, 0, none⟩)] w fun e w' => e = .returned (.int .i64 x.bs.length) ∧ Below w.heap.size w w' := by
  obtain ⟨P, hq⟩ := h.q_
  exact Len_calls w base q P x hq
/-- What Drain takes, and what it leaves. -/
theorem Drain_St (w0 w : World) (q : Nat) (x : QS) (vi vo : Value) (li lo : List Int) (n : Int) (hB : Below w0.heap.size w0 w) (h : St w w0.heap.size q x vi li vo lo) (hb : x.bs.length < 4294967296) :
    Calls Try.prog 15 #[.pointer (some ⟨q, 0, none⟩), .int .i64 n] w fun e w' => ∃ A tl dl c, e = .returned (.slice A tl.length c) ∧ x.bs = tl ++ dl ∧ tl.length = (min (max n 0) (x.bs.length : Int)).toNat ∧ Kd.C (Kd.int .u8) w' A tl.length tl ∧
      St w' w0.heap.size q ⟨dl, x.room, x.dr⟩ vi li vo lo ∧ Below w0.heap.size w0 w' := by
  obtain ⟨PQ, PI, PO, hq, hi, ho, d1, d2, d3⟩ := h
  refine (Drain_calls w0 w q PQ x n hB hq hb).mono ?_
  rintro e w' ⟨v, rfl, hv, hq', hb', hk⟩
  obtain ⟨A, c, rfl, hl, hc⟩ := Kd.R_reads hv
  refine ⟨A, _, _, c, rfl, (List.take_append_drop _ _).symm, ?_, hc, St.kept hi ho d1 d2 d3 (hq'.mono (fun _ h => .inl h)) hk, hb'⟩
  rw [List.length_take]
  omega

section
variable {ops : Array Oper} {rest : List Oper} {o : Oper} {a : Act} {Q : Exit → Act → World → Prop}
/-- An append to the second row. -/
theorem append_out {w0 W : World} (hgd : o.guard = none) (s y : Operand) (ho : o.op = .call { callee := .builtin .append, args := #[s, y], argTypes := #[28, 28] })
    (q : Nat) (x : QS) (vi vo : Value) (li lo ys : List Int) (A : Option Addr) (c : Nat) (hs : a.eval s = vo) (hy : a.eval y = .slice A ys.length c) (h : St W w0.heap.size q x vi li vo lo)
    (HR : Kd.C (Kd.int .u8) W A ys.length ys) (HB : Below w0.heap.size w0 W) (hl : lo.length + ys.length ≤ 1000000)
    (hK : ∀ v1 w1, St w1 w0.heap.size q x vi li v1 (lo ++ ys) → Below w0.heap.size w0 w1 → wpList Try.prog ops Q rest (a.put o.dst v1) w1) : wpList Try.prog ops Q (o :: rest) a W := by
  obtain ⟨PQ, PI, PO, hq, hi, ho', d1, d2, d3⟩ := h
  refine Kd.R_append_rows (Kd.int .u8) (w0 := w0) w0.heap.size hgd s y 28 5 (.int .u8 0) 1 ho Try.underlying28 infoU8 rfl (by decide) (by omega) vo lo ys A _ c (fun k => PO k ∨ W.heap.size ≤ k) (fun _ => False) hs hy
    (Kd.R_mono ho' (fun k hk => .inl hk)) HR (fun _ _ h => h) (fun _ h => h.elim) (fun k hk => .inr hk) HB (below_size HB) (by omega) ?_
  intro v1 w1 hr hb hg hat
  have hown : ∀ k, vo.ownBlock = some k → PO k := ho'.1
  have hsz := hg.size
  refine hK v1 w1 ⟨PQ, PI, _, hq.kept (Kept.of_grown hg (Kept.refl W PO) (fun k hk => .inl (hown k hk))) (fun hp => (d3 q hp).1 rfl) (fun k hk => (d1 k hk).2.1), Kd.R_grown hi hg (fun k hk he => (d2 k hk).1 (hown k he.symm)), Kd.R_bound hr, ?_, ?_, ?_⟩ hb
  · intro k hk
    obtain ⟨e1, e2, e3, e4⟩ := d1 k hk
    exact ⟨e1, fun hp => hp.1.elim e2 (fun hp => absurd e4 (Nat.not_lt.2 hp)), e3, Nat.lt_of_lt_of_le e4 hsz⟩
  · intro k hk
    obtain ⟨e1, e2, e3⟩ := d2 k hk
    exact ⟨fun hp => hp.1.elim e1 (fun hp => absurd e3 (Nat.not_lt.2 hp)), e2, Nat.lt_of_lt_of_le e3 hsz⟩
  · rintro k ⟨hk | hk, h1, h2, _⟩
    · exact ⟨(d3 k hk).1, h2⟩
    · exact ⟨fun e => absurd hq.lt (Nat.not_lt.2 (e ▸ hk)), h2⟩
/-- An append to the first row. -/
theorem append_in {w0 W : World} (hgd : o.guard = none) (s y : Operand) (ho : o.op = .call { callee := .builtin .append, args := #[s, y], argTypes := #[28, 28] })
    (q : Nat) (x : QS) (vi vo : Value) (li lo ys : List Int) (A : Option Addr) (c : Nat) (hs : a.eval s = vi) (hy : a.eval y = .slice A ys.length c) (h : St W w0.heap.size q x vi li vo lo)
    (HR : Kd.C (Kd.int .u8) W A ys.length ys) (HB : Below w0.heap.size w0 W) (hl : li.length + ys.length ≤ 1000000)
    (hK : ∀ v1 w1, St w1 w0.heap.size q x v1 (li ++ ys) vo lo → Below w0.heap.size w0 w1 → wpList Try.prog ops Q rest (a.put o.dst v1) w1) : wpList Try.prog ops Q (o :: rest) a W :=
  append_out hgd s y ho q x vo vi lo li ys A c hs hy h.swap HR HB hl (fun v1 w1 h1 h2 => hK v1 w1 h1.swap h2)
end

end Go.Proofs.Ytehnppklfaoikaa.L
