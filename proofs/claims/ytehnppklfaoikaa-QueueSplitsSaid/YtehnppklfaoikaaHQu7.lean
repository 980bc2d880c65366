import Derived.Test.YtehnppklfaoikaaHQu6
/- Two queues, two rows of one's own and a box, all apart: every block has a label. -/
namespace Go.Proofs.Ytehnppklfaoikaa.L
open Go Go.RowKit Go.Proofs.Ytehnppklfaoikaa.H Go.Proofs.Ytehnppklfaoikaa.F Go.Proofs.YtehnppklfaoikaaW.PrintWords Go.Proofs.YtehnppklfaoikaaW.PrintLast Go.Proofs.YtehnppklfaoikaaW.PrintMore
set_option linter.unusedVariables false
set_option linter.unusedSimpArgs false

/-- New blocks get the label i. -/
def lab (W W1 : World) (f : Nat → Nat) (i k : Nat) : Nat := if k < W.heap.size then f k else if k < W1.heap.size then i else 0
theorem lab_old {W W1 : World} {f : Nat → Nat} {i k : Nat} (h : k < W.heap.size) : lab W W1 f i k = f k := if_pos h
theorem lab_new {W W1 : World} {f : Nat → Nat} {i k : Nat} (h : W.heap.size ≤ k) (h1 : k < W1.heap.size) : lab W W1 f i k = i := by
  unfold lab
  rw [if_neg (Nat.not_lt.2 h), if_pos h1]
theorem lab_bound {W W1 : World} {f : Nat → Nat} {i base : Nat} (hf : ∀ k, f k ≠ 0 → base ≤ k ∧ k < W.heap.size) (hs : W.heap.size ≤ W1.heap.size) (hb : base ≤ W.heap.size) : ∀ k, lab W W1 f i k ≠ 0 → base ≤ k ∧ k < W1.heap.size := by
  intro k hk
  unfold lab at hk
  by_cases h : k < W.heap.size
  · rw [if_pos h] at hk
    exact ⟨(hf k hk).1, Nat.lt_of_lt_of_le h hs⟩
  · rw [if_neg h] at hk
    by_cases h1 : k < W1.heap.size
    · exact ⟨by omega, h1⟩
    · rw [if_neg h1] at hk
      exact absurd rfl hk
section
variable {W W1 : World} {f : Nat → Nat} {base i s j : Nat} (hf : ∀ k, f k ≠ 0 → base ≤ k ∧ k < W.heap.size) (hk : Kept W W1 (fun k => f k = s)) (hj : j ≠ 0) (hjs : j ≠ s)
include hf hk hj hjs
theorem lab_R {v : Value} {l : List Int} (h : Kd.R (Kd.int .u8) 5 W base (fun k => f k = j) v l) : Kd.R (Kd.int .u8) 5 W1 base (fun k => lab W W1 f i k = j) v l :=
  Kd.R_mono (Kd.R_step h (fun k h1 h2 => hk.2 k h2 (fun e => hjs (h1.symm.trans e)))) (fun k h1 => (lab_old (hf k (by rw [h1]; exact hj)).2).trans h1)
theorem lab_Qu {q : Nat} {x : QS} (hq : f q = j) (h : Qu W base q (fun k => f k = j) x) : Qu W1 base q (fun k => lab W W1 f i k = j) x :=
  (h.kept hk (fun e => hjs (hq.symm.trans e)) (fun k h1 e => hjs (h1.symm.trans e))).mono (fun k h1 => (lab_old (hf k (by rw [h1]; exact hj)).2).trans h1)
end
theorem lab_blk {W W1 : World} {f : Nat → Nat} {s j b : Nat} {o : Obj} (hk : Kept W W1 (fun k => f k = s)) (hjs : j ≠ s) (hb : f b = j) (h : W.heap[b]? = some o) : W1.heap[b]? = some o := (hk.2 b (blk_lt h) (fun e => hjs (hb.symm.trans e))).trans h

/-- Two queues, two rows, a box. -/
def Sp (W : World) (base q p b : Nat) (n0 n1 : Int) (x y : QS) (vo : Value) (lo : List Int) (vd : Value) (ld : List Int) : Prop :=
  ∃ f : Nat → Nat, (∀ k, f k ≠ 0 → base ≤ k ∧ k < W.heap.size) ∧ f q = 1 ∧ f p = 2 ∧ f b = 5 ∧ Qu W base q (fun k => f k = 1) x ∧ Qu W base p (fun k => f k = 2) y ∧
    Kd.R (Kd.int .u8) 5 W base (fun k => f k = 3) vo lo ∧ Kd.R (Kd.int .u8) 5 W base (fun k => f k = 4) vd ld ∧ W.heap[b]? = some (.cells #[.int .i64 n0, .int .i64 n1] 43 (0, 0))

section
variable {W W1 w0 : World} {base q p b : Nat} {n0 n1 : Int} {x y : QS} {vo vd : Value} {lo ld : List Int}
theorem Sp.start (hq : Qu W base q (fun _ => False) x) (hp : Qu W base p (fun _ => False) y) (hx : W.heap[b]? = some (.cells #[.int .i64 n0, .int .i64 n1] 43 (0, 0))) (hb : base ≤ b) (h1 : b < q) (h2 : q < p) : Sp W base q p b n0 n1 x y (.slice none 0 0) [] (.slice none 0 0) [] := by
  refine ⟨fun k => if k = q then 1 else if k = p then 2 else if k = b then 5 else 0, fun k hk => ?_, by simp, by simp [show p ≠ q by omega], by simp [show b ≠ q by omega, show b ≠ p by omega], hq.mono (fun _ h => h.elim), hp.mono (fun _ h => h.elim), Kd.R_nil _ _ _ _ _, Kd.R_nil _ _ _ _ _, hx⟩
  have e1 := hq.lt
  have e2 := hp.lt
  by_cases c1 : k = q
  · exact ⟨by omega, by omega⟩
  · by_cases c2 : k = p
    · exact ⟨by omega, by omega⟩
    · by_cases c3 : k = b
      · exact ⟨by omega, by omega⟩
      · simp [c1, c2, c3] at hk
theorem Sp.below (h : Sp W base q p b n0 n1 x y vo lo vd ld) (hb : Below W.heap.size W W1) : Sp W1 base q p b n0 n1 x y vo lo vd ld := by
  obtain ⟨f, hf, h1, h2, h5, hq, hp, ho, hd, hx⟩ := h
  exact ⟨f, fun k hk => ⟨(hf k hk).1, Nat.lt_of_lt_of_le (hf k hk).2 hb.size⟩, h1, h2, h5, hq.below hb, hp.below hb, Kd.R_below ho hb, Kd.R_below hd hb, blk_below hx hb⟩
theorem Sp.swap (h : Sp W base q p b n0 n1 x y vo lo vd ld) : Sp W base p q b n0 n1 y x vo lo vd ld := by
  obtain ⟨f, hf, h1, h2, h5, hq, hp, ho, hd, hx⟩ := h
  refine ⟨fun k => if f k = 1 then 2 else if f k = 2 then 1 else f k, fun k hk => hf k (fun e => hk (by simp [e])), by simp [h2], by simp [h1], by simp [h5], hp.mono ?_, hq.mono ?_, Kd.R_mono ho ?_, Kd.R_mono hd ?_, hx⟩ <;> intro k hk <;> simp only at hk ⊢ <;> simp [hk]
theorem Sp.cells (h : Sp W base q p b n0 n1 x y vo lo vd ld) : W.cell? ⟨b, 0, none⟩ = some (.int .i64 n0) ∧ W.cell? ⟨b, 1, none⟩ = some (.int .i64 n1) := by
  obtain ⟨f, hf, h1, h2, h5, hq, hp, ho, hd, hx⟩ := h
  exact ⟨(blk_cell hx 0).trans rfl, (blk_cell hx 1).trans rfl⟩
theorem Sp.co (h : Sp W base q p b n0 n1 x y vo lo vd ld) : ∃ A c, vo = .slice A lo.length c ∧ Kd.C (Kd.int .u8) W A lo.length lo := by
  obtain ⟨f, hf, h1, h2, h5, hq, hp, ho, hd, hx⟩ := h
  obtain ⟨A, c, e, hl, hc⟩ := Kd.R_reads ho
  exact ⟨A, c, e, hc⟩
theorem Sp.co_ {A : Option Addr} {n c : Nat} (h : Sp W base q p b n0 n1 x y (.slice A n c) lo vd ld) : Kd.C (Kd.int .u8) W A lo.length lo := by
  obtain ⟨A1, c1, e, hc⟩ := h.co
  injection e with e1 e2 e3
  subst e1
  exact hc
theorem Sp.q_ (h : Sp W base q p b n0 n1 x y vo lo vd ld) : ∃ P, Qu W base q P x := by
  obtain ⟨f, hf, h1, h2, h5, hq, hp, ho, hd, hx⟩ := h
  exact ⟨_, hq⟩
/-- The empty list is laid: the first row is it. -/
theorem Sp.lit (hb : base ≤ W.heap.size) (h : Sp W base q p b n0 n1 x y vo lo vd ld) : Sp (W.alloc (.cells #[] 5 (0, 0))) base q p b n0 n1 x y (.slice (some ⟨W.heap.size, 0, none⟩) 0 0) [] vd ld := by
  obtain ⟨f, hf, h1, h2, h5, hq, hp, ho, hd, hx⟩ := h
  have hB : Below W.heap.size W (W.alloc (.cells #[] 5 (0, 0))) := below_alloc (Below.refl _ _) _
  have hk : Kept W (W.alloc (.cells #[] 5 (0, 0))) (fun k => f k = 6) := Kept.of_below hB _
  have hs := hB.size
  have hlt : ∀ k, f k ≠ 0 → k < W.heap.size := fun k hk => (hf k hk).2
  refine ⟨lab W _ f 3, lab_bound hf hs hb, (lab_old (hlt q (by rw [h1]; decide))).trans h1, (lab_old (hlt p (by rw [h2]; decide))).trans h2, (lab_old (hlt b (by rw [h5]; decide))).trans h5,
    lab_Qu hf hk (by decide) (by decide) h1 hq, lab_Qu hf hk (by decide) (by decide) h2 hp, ⟨?_, [], ?_, Reps.none _ _⟩, lab_R hf hk (by decide) (by decide) hd, lab_blk hk (by decide) h5 hx⟩
  · intro k hk
    have : W.heap.size = k := by simpa [Value.ownBlock] using hk
    subst this
    exact lab_new (Nat.le_refl _) (blk_lt (blk_new W _))
  · have h2 := World.ownsRow_lit (base := base) (e := 5) (size := 1) W #[] 0 hb (by decide) (by decide)
    have h3 : (W.alloc (.cells #[] 5 (0, 0))).ownsRow base 5 1 (.slice (some ⟨W.heap.size, 0, none⟩) 0 0) 0 [] := by simpa using h2
    exact h3

theorem Push_ok_Sp (A : Option Addr) (l : List Int) (c : Nat) (hB : Below w0.heap.size w0 W) (h : Sp W w0.heap.size q p b n0 n1 x y vo lo vd ld) (hr : Kd.C (Kd.int .u8) w0 A l.length l) (hc : l.length ≤ c) (hn : (x.bs.length : Int) + l.length ≤ x.room) (hb : x.bs.length + l.length < 4294967296) :
    Calls Try.prog 13 #[.pointer (some ⟨q, 0, none⟩), .slice A l.length c] W fun e w' => e = .returned (.bool true) ∧ Sp w' w0.heap.size q p b n0 n1 ⟨x.bs ++ l, x.room, x.dr⟩ y vo lo vd ld ∧ Below w0.heap.size w0 w' := by
  obtain ⟨f, hf, h1, h2, h5, hq, hp, ho, hd, hx⟩ := h
  refine (Push_ok w0 W q _ x A l c hB hq (read_old hr hB hq.1 (fun k hk => (hf k (by rw [hk]; decide)).1)) hc hn hb).mono ?_
  rintro e w' ⟨rfl, hq', hb', hk'⟩
  have hk : Kept W w' (fun k => f k = 1) := hk'.mono (fun k h => h.elim id (fun e => e ▸ h1))
  have hs := hk.1
  have hlt : ∀ k, f k ≠ 0 → k < W.heap.size := fun k hk => (hf k hk).2
  exact ⟨rfl, ⟨lab W w' f 1, lab_bound hf hs hB.size, (lab_old (hlt q (by rw [h1]; decide))).trans h1, (lab_old (hlt p (by rw [h2]; decide))).trans h2, (lab_old (hlt b (by rw [h5]; decide))).trans h5,
    hq'.bound.mono (fun k hk => by
      rcases hk.1 with e | e
      · exact (lab_old (hlt k (by rw [e]; decide))).trans e
      · exact lab_new e hk.2.2), lab_Qu hf hk (by decide) (by decide) h2 hp, lab_R hf hk (by decide) (by decide) ho, lab_R hf hk (by decide) (by decide) hd, lab_blk hk (by decide) h5 hx⟩, hb'⟩
theorem Push_big_Sp (A : Option Addr) (n c : Nat) (hB : Below w0.heap.size w0 W) (h : Sp W w0.heap.size q p b n0 n1 x y vo lo vd ld) (hn : x.room < (x.bs.length : Int) + n) (hb : x.bs.length + n < 4294967296) :
    Calls Try.prog 13 #[.pointer (some ⟨q, 0, none⟩), .slice A n c] W fun e w' => e = .returned (.bool false) ∧ Sp w' w0.heap.size q p b n0 n1 ⟨x.bs, x.room, wrap64 (x.dr + 1)⟩ y vo lo vd ld ∧ Below w0.heap.size w0 w' := by
  obtain ⟨f, hf, h1, h2, h5, hq, hp, ho, hd, hx⟩ := h
  refine (Push_big w0 W q _ x A n c hB hq hn hb).mono ?_
  rintro e w' ⟨rfl, hq', hb', hk'⟩
  have hk : Kept W w' (fun k => f k = 1) := hk'.mono (fun k h => h.elim id (fun e => e ▸ h1))
  have hs := hk.1
  have hlt : ∀ k, f k ≠ 0 → k < W.heap.size := fun k hk => (hf k hk).2
  exact ⟨rfl, ⟨lab W w' f 1, lab_bound hf hs hB.size, (lab_old (hlt q (by rw [h1]; decide))).trans h1, (lab_old (hlt p (by rw [h2]; decide))).trans h2, (lab_old (hlt b (by rw [h5]; decide))).trans h5,
    hq'.mono (fun k e => (lab_old (hlt k (by rw [e]; decide))).trans e), lab_Qu hf hk (by decide) (by decide) h2 hp, lab_R hf hk (by decide) (by decide) ho, lab_R hf hk (by decide) (by decide) hd, lab_blk hk (by decide) h5 hx⟩, hb'⟩
/-- What is drained is the second row then. -/
theorem Drain_Sp (n : Int) (hB : Below w0.heap.size w0 W) (h : Sp W w0.heap.size q p b n0 n1 x y vo lo vd ld) (hb : x.bs.length < 4294967296) :
    Calls Try.prog 15 #[.pointer (some ⟨q, 0, none⟩), .int .i64 n] W fun e w' => ∃ A tl dl c, e = .returned (.slice A tl.length c) ∧ x.bs = tl ++ dl ∧ tl.length = (min (max n 0) (x.bs.length : Int)).toNat ∧ Kd.C (Kd.int .u8) w' A tl.length tl ∧
      Sp w' w0.heap.size q p b n0 n1 ⟨dl, x.room, x.dr⟩ y vo lo (.slice A tl.length c) tl ∧ Below w0.heap.size w0 w' := by
  obtain ⟨f, hf, h1, h2, h5, hq, hp, ho, hd, hx⟩ := h
  refine (Drain_calls w0 W q _ x n hB hq hb).mono ?_
  rintro e w' ⟨v, rfl, hv, hq', hb', hk'⟩
  have hk : Kept W w' (fun k => f k = 1) := hk'.mono (fun k h => h.elim id (fun e => e ▸ h1))
  have hs := hk.1
  have hlt : ∀ k, f k ≠ 0 → k < W.heap.size := fun k hk => (hf k hk).2
  obtain ⟨A, c, rfl, hl, hc⟩ := Kd.R_reads hv
  exact ⟨A, _, _, c, rfl, (List.take_append_drop _ _).symm, by rw [List.length_take]; omega, hc, ⟨lab W w' f 4, lab_bound hf hs hB.size, (lab_old (hlt q (by rw [h1]; decide))).trans h1, (lab_old (hlt p (by rw [h2]; decide))).trans h2, (lab_old (hlt b (by rw [h5]; decide))).trans h5,
    hq'.mono (fun k e => (lab_old (hlt k (by rw [e]; decide))).trans e), lab_Qu hf hk (by decide) (by decide) h2 hp, lab_R hf hk (by decide) (by decide) ho, Kd.R_mono (Kd.R_bound hv) (fun k hk => lab_new hk.1 hk.2.2.1), lab_blk hk (by decide) h5 hx⟩, hb'⟩
theorem Len_Sp (h : Sp W base q p b n0 n1 x y vo lo vd ld) :
    Calls Try.prog 17 #[.pointer (some ⟨q, 0, none⟩)] W fun e w' => e = .returned (.int .i64 x.bs.length) ∧ Below W.heap.size W w' := by
  obtain ⟨P, hq⟩ := h.q_
  exact Len_calls W base q P x hq

/-- The second row is appended to the first one, in a region that draws. -/
theorem append_Sp {ops : Array Oper} {o : Oper} {a : Act} {Q : Exit → Act → World → Prop} {Kc : Act → World → Prop} {E : Prop} {A : Option Addr} {c : Nat} (hgd : o.guard = none) (s z : Operand) (hO : o.op = .call { callee := .builtin .append, args := #[s, z], argTypes := #[28, 28] })
    (hs : a.eval s = vo) (hz : a.eval z = .slice A ld.length c) (h : Sp W w0.heap.size q p b n0 n1 x y vo lo (.slice A ld.length c) ld) (HB : Below w0.heap.size w0 W) (hl : lo.length + ld.length ≤ 1000000)
    (hK : ∀ v1 w1, Sp w1 w0.heap.size q p b n0 n1 x y v1 (lo ++ ld) (.slice A ld.length c) ld → Below w0.heap.size w0 w1 → Kc (a.put o.dst v1) w1) :
    if Region.wanted o (yielded ops a.tmps) = true then Oper.wp Try.prog o a W Kc Q else E := by
  obtain ⟨f, hf, h1, h2, h5, hq, hp, ho, hd, hx⟩ := h
  have hw : Region.wanted o (yielded ops a.tmps) = true := by simp [Region.wanted, hgd]
  have hR := Kd.R_append_rows_step (P := Try.prog) (Q := Q) (Kc := Kc) (ops := ops) (o := o) (a := a) (Kd.int .u8) (w0 := w0) (W := W) w0.heap.size hw s z 28 5 (.int .u8 0) 1 hO Try.underlying28 infoU8 rfl (by decide) (by omega) vo lo ld A ld.length c (fun k => f k = 3 ∨ W.heap.size ≤ k) (fun _ => False) hs hz
    (Kd.R_mono ho (fun k hk => .inl hk)) (Kd.R_reads' hd).2.2 (fun _ _ h => h) (fun _ h => h.elim) (fun k hk => .inr hk) HB (below_size HB) (by omega) ?_
  · rw [if_pos hw] at hR ⊢
    exact hR
  intro v1 w1 hr hb hg hat
  have hk : Kept W w1 (fun k => f k = 3) := Kept.of_grown hg (Kept.refl W _) (fun k hk => .inl (ho.1 k hk))
  have hs := hg.size
  have hlt : ∀ k, f k ≠ 0 → k < W.heap.size := fun k hk => (hf k hk).2
  exact hK v1 w1 ⟨lab W w1 f 3, lab_bound hf hs HB.size, (lab_old (hlt q (by rw [h1]; decide))).trans h1, (lab_old (hlt p (by rw [h2]; decide))).trans h2, (lab_old (hlt b (by rw [h5]; decide))).trans h5,
    lab_Qu hf hk (by decide) (by decide) h1 hq, lab_Qu hf hk (by decide) (by decide) h2 hp, Kd.R_mono (Kd.R_bound hr) (fun k hk => by
      rcases hk.1 with e | e
      · exact (lab_old (hlt k (by rw [e]; decide))).trans e
      · exact lab_new e hk.2.2.1), lab_R hf hk (by decide) (by decide) hd, lab_blk hk (by decide) h5 hx⟩ hb
end

end Go.Proofs.Ytehnppklfaoikaa.L
