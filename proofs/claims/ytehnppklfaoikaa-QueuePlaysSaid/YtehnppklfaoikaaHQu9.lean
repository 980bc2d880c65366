import Derived.Test.YtehnppklfaoikaaHQu8
/- The queue beside the reference's: what QueuePlays wants. -/
namespace Go.Proofs.Ytehnppklfaoikaa.L
open Go Go.RowKit Go.Proofs.Ytehnppklfaoikaa.H Go.Proofs.Ytehnppklfaoikaa.F Go.Proofs.YtehnppklfaoikaaW.PrintWords Go.Proofs.YtehnppklfaoikaaW.PrintLast Go.Proofs.YtehnppklfaoikaaW.PrintMore
set_option linter.unusedVariables false
set_option linter.unusedSimpArgs false

theorem row_event {P : Program} {ops : Array Oper} {rest : List Oper} {o : Oper} {a : Act} {Q : Exit → Act → World → Prop} {W : World} (hgd : o.guard = none) (hN : o.dst = none) (t : TypeId) (p x : Operand) (ho : o.op = .store t p x) (g off : Nat) (e : TypeId) (cur : Array Value)
    (hh : W.heap[g]? = some (.cells cur e (0, 0))) (hp : a.eval p = .pointer (some ⟨g, off, none⟩)) (u : Value) (hx : a.eval x = u) (seg : List Value) (hu : u.cells.toList = seg) (ht : (P.info? t).map (·.size) = some seg.length) (hfit : off + seg.length ≤ cur.size)
    (h1 : ∀ q ∈ seg, q.oneCell' = true) (cs' : Array Value) (hcs : cs'.toList = cur.toList.take off ++ seg ++ cur.toList.drop (off + seg.length))
    (h : ∀ w', w'.heap[g]? = some (.cells cs' e (0, 0)) → W.grownBy w' (some g) → wpList P ops Q rest a w') : wpList P ops Q (o :: rest) a W := by
  refine wpList_plain hgd fun K hK => ?_
  have hrun := run_store_run (P := P) t u seg hh hu ht hfit h1
  unfold Oper.wp execOp
  simp only [ho, hp, hx, Sem.run_bind, Sem.run_pure, Result.andThen_ok, hrun]
  show K (a.put o.dst undef) _
  rw [hN]
  obtain ⟨cur', k1, k2, k3⟩ := setCells_row seg off W cur hh hfit
  obtain ⟨s1, s2, s3, s4⟩ := setCells_same g seg off W
  have ec : cur' = cs' := by
    have h2 : cur'.toList = cs'.toList := by rw [k3, hcs]
    exact Array.toList_inj.1 h2
  subst ec
  exact hK a _ (h _ k1 ⟨s1, s2, s3, by rw [s4]; exact Nat.le_refl _, fun k _ hk => setCells_far seg off k (fun he => hk (by rw [he]))⟩)

theorem set_kept (W : World) (g j : Nat) (u : Value) : Kept W (W.setCell ⟨g, j, none⟩ u) (fun k => k = g) := Kept.setCell (S := fun k => k = g) (p := ⟨g, j, none⟩) (Kept.refl W _) (Or.inl rfl) u
/-- The queue x lies at q, the reference's y in the box bx; all their blocks lie below N. -/
def Pl (N : Nat) (W : World) (base q bx : Nat) (x y : QS) (A : Option Addr) (c : Nat) : Prop :=
  ∃ PQ : Nat → Prop, Qu W base q PQ x ∧ (∀ k, PQ k → k < N ∧ k ≠ bx) ∧ bx ≠ q ∧ q < N ∧ bx < N ∧ N ≤ W.heap.size ∧ base ≤ bx ∧ W.heap[bx]? = some (.cells #[.int .i64 y.room, .slice A y.bs.length c, .int .i64 y.dr] 30 (0, 0)) ∧
    Kd.C (Kd.int .u8) W A y.bs.length y.bs ∧ y.bs.length ≤ c ∧ (∀ a, A = some a → a.block < N ∧ ¬ PQ a.block ∧ a.block ≠ q ∧ a.block ≠ bx)
/-- What is read beside them. -/
def Rd (N : Nat) (W : World) (bx : Nat) (A : Option Addr) (l : List Int) : Prop := Kd.C (Kd.int .u8) W A l.length l ∧ N ≤ W.heap.size ∧ ∀ a, A = some a → a.block < N ∧ a.block ≠ bx

section
variable {N base q bx c : Nat} {W W1 w : World} {x y : QS} {A : Option Addr}
theorem Pl.below (h : Pl N W base q bx x y A c) (hb : Below W.heap.size W W1) : Pl N W1 base q bx x y A c := by
  obtain ⟨PQ, hq, h1, h2, h3, h4, h5, h6, h7, h8, h9, h10⟩ := h
  exact ⟨PQ, hq.below hb, h1, h2, h3, h4, Nat.le_trans h5 hb.size, h6, blk_below h7 hb, Kd.C_below h8 hb, h9, h10⟩
theorem Pl.alloc (h : Pl N W base q bx x y A c) (o : Obj) : Pl N (W.alloc o) base q bx x y A c := h.below (below_alloc (Below.refl _ _) o)
theorem Pl.drew (h : Pl N W base q bx x y A c) : Pl N W.drew base q bx x y A c := h.below (below_drew1 (Below.refl _ _))
theorem Pl.far (h : Pl N W base q bx x y A c) {g : Nat} (hg : N ≤ g) (j : Nat) (u : Value) : Pl N (W.setCell ⟨g, j, none⟩ u) base q bx x y A c := by
  obtain ⟨PQ, hq, h1, h2, h3, h4, h5, h6, h7, h8, h9, h10⟩ := h
  have hk : Kept W (W.setCell ⟨g, j, none⟩ u) (fun k => k = g) := set_kept W g j u
  exact ⟨PQ, hq.kept hk (by omega) (fun k hp => by have := (h1 k hp).1; omega), h1, h2, h3, h4, Nat.le_trans h5 hk.1, h6, (hk.2 bx (blk_lt h7) (by omega)).trans h7, C_kept h8 hk (fun a ha _ => by have := (h10 a ha).1; omega), h9, h10⟩
theorem Pl.up (h : Pl N W base q bx x y A c) : Pl W.heap.size W base q bx x y A c := by
  obtain ⟨PQ, hq, h1, h2, h3, h4, h5, h6, h7, h8, h9, h10⟩ := h
  exact ⟨PQ, hq, fun k hk => ⟨Nat.lt_of_lt_of_le (h1 k hk).1 h5, (h1 k hk).2⟩, h2, Nat.lt_of_lt_of_le h3 h5, Nat.lt_of_lt_of_le h4 h5, Nat.le_refl _, h6, h7, h8, h9, fun a ha => ⟨Nat.lt_of_lt_of_le (h10 a ha).1 h5, (h10 a ha).2⟩⟩
theorem Pl.le (h : Pl N W base q bx x y A c) : N ≤ W.heap.size := by
  obtain ⟨PQ, hq, h1, h2, h3, h4, h5, h6, h7, h8, h9, h10⟩ := h
  exact h5
theorem Pl.bl (h : Pl N W base q bx x y A c) : base ≤ bx ∧ bx < N := by
  obtain ⟨PQ, hq, h1, h2, h3, h4, h5, h6, h7, h8, h9, h10⟩ := h
  exact ⟨h6, h4⟩
theorem Pl.blk (h : Pl N W base q bx x y A c) : W.heap[bx]? = some (.cells #[.int .i64 y.room, .slice A y.bs.length c, .int .i64 y.dr] 30 (0, 0)) := by
  obtain ⟨PQ, hq, h1, h2, h3, h4, h5, h6, h7, h8, h9, h10⟩ := h
  exact h7
theorem Pl.cc (h : Pl N W base q bx x y A c) : Kd.C (Kd.int .u8) W A y.bs.length y.bs ∧ y.bs.length ≤ c := by
  obtain ⟨PQ, hq, h1, h2, h3, h4, h5, h6, h7, h8, h9, h10⟩ := h
  exact ⟨h8, h9⟩
theorem Pl.q_ (h : Pl N W base q bx x y A c) : ∃ P, Qu W base q P x := by
  obtain ⟨PQ, hq, h1, h2, h3, h4, h5, h6, h7, h8, h9, h10⟩ := h
  exact ⟨PQ, hq⟩
theorem Pl.rd (h : Pl N W base q bx x y A c) : Rd N W bx A y.bs := by
  obtain ⟨PQ, hq, h1, h2, h3, h4, h5, h6, h7, h8, h9, h10⟩ := h
  exact ⟨h8, h5, fun a ha => ⟨(h10 a ha).1, (h10 a ha).2.2.2⟩⟩
theorem Pl.start (hq : Qu W base q (fun _ => False) x) (hx : W.heap[bx]? = some (.cells #[.int .i64 y.room, .slice none 0 0, .int .i64 y.dr] 30 (0, 0))) (hb : base ≤ bx) (hn : bx ≠ q) (hy : y.bs = []) : Pl W.heap.size W base q bx x y none 0 :=
  ⟨fun _ => False, hq, fun _ h => h.elim, hn, hq.lt, blk_lt hx, Nat.le_refl _, hb, by rw [hy]; exact hx, by rw [hy]; exact Kd.C_nil _ _, by rw [hy]; exact Nat.le_refl _, fun a ha => by cases ha⟩
/-- The box has been written. -/
theorem Pl.put (h : Pl N W base q bx x y A c) (z : QS) {A1 : Option Addr} {c1 : Nat} (hx : W1.heap[bx]? = some (.cells #[.int .i64 z.room, .slice A1 z.bs.length c1, .int .i64 z.dr] 30 (0, 0))) (hg : W.grownBy W1 (some bx))
    (hr : Kd.C (Kd.int .u8) W A1 z.bs.length z.bs) (hl : z.bs.length ≤ c1) (hA : ∀ a, A1 = some a → (N ≤ a.block ∧ a.block < W.heap.size) ∨ ∃ b, A = some b ∧ a.block = b.block) : Pl W1.heap.size W1 base q bx x z A1 c1 := by
  obtain ⟨PQ, hq, h1, h2, h3, h4, h5, h6, h7, h8, h9, h10⟩ := h
  have hk : Kept W W1 (fun k => k = bx) := Kept.of_grown hg (Kept.refl _ _) (fun k hk => by injection hk with hk; exact .inl hk.symm)
  have hs := hk.1
  have key : ∀ a, A1 = some a → a.block < W.heap.size ∧ ¬ PQ a.block ∧ a.block ≠ q ∧ a.block ≠ bx := by
    intro a ha
    rcases hA a ha with ⟨e1, e2⟩ | ⟨b, e1, e2⟩
    · exact ⟨e2, fun hp => by have := (h1 _ hp).1; omega, by omega, by omega⟩
    · rw [e2]
      exact ⟨Nat.lt_of_lt_of_le (h10 b e1).1 h5, (h10 b e1).2⟩
  exact ⟨PQ, hq.kept hk (Ne.symm h2) (fun k hp => (h1 k hp).2), fun k hp => ⟨by have := (h1 k hp).1; omega, (h1 k hp).2⟩, h2, by omega, by omega, Nat.le_refl _, h6, hx, C_kept hr hk (fun a ha _ => (key a ha).2.2.2), hl, fun a ha => ⟨Nat.lt_of_lt_of_le (key a ha).1 hs, (key a ha).2⟩⟩

theorem Rd.below {l : List Int} (h : Rd N W bx A l) (hb : Below W.heap.size W W1) : Rd N W1 bx A l := ⟨Kd.C_below h.1 hb, Nat.le_trans h.2.1 hb.size, h.2.2⟩
theorem Rd.alloc {l : List Int} (h : Rd N W bx A l) (o : Obj) : Rd N (W.alloc o) bx A l := h.below (below_alloc (Below.refl _ _) o)
theorem Rd.drew {l : List Int} (h : Rd N W bx A l) : Rd N W.drew bx A l := h.below (below_drew1 (Below.refl _ _))
theorem Rd.far {l : List Int} (h : Rd N W bx A l) {g : Nat} (hg : N ≤ g) (j : Nat) (u : Value) : Rd N (W.setCell ⟨g, j, none⟩ u) bx A l := by
  have hk : Kept W (W.setCell ⟨g, j, none⟩ u) (fun k => k = g) := set_kept W g j u
  exact ⟨C_kept h.1 hk (fun a ha _ => by have := (h.2.2 a ha).1; omega), Nat.le_trans h.2.1 hk.1, h.2.2⟩
theorem Rd.put {l : List Int} (h : Rd N W bx A l) (hg : W.grownBy W1 (some bx)) : Kd.C (Kd.int .u8) W1 A l.length l :=
  C_kept h.1 (Kept.of_grown (S := fun k => k = bx) hg (Kept.refl _ _) (fun k hk => by injection hk with hk; exact .inl hk.symm)) (fun a ha _ => (h.2.2 a ha).2)

/-- What the loads of a round read. -/
theorem keep_of {p : Addr} {v : Value} (h : Pl N W base q bx x y A c) (hB : Below w.heap.size w W) (hlt : p.block < w.heap.size) (hx : w.cell? p = some v) :
    W.cell? ⟨bx, 0, none⟩ = some (.int .i64 y.room) ∧ W.cell? ⟨bx, 1, none⟩ = some (.slice A y.bs.length c) ∧ W.cell? ⟨bx, 2, none⟩ = some (.int .i64 y.dr) ∧ W.cell? p = some v :=
  ⟨(blk_cell h.blk 0).trans rfl, (blk_cell h.blk 1).trans rfl, (blk_cell h.blk 2).trans rfl, (hB.cell hlt).trans hx⟩
end

section
variable {N q bx c : Nat} {w0 W : World} {x y : QS} {A : Option Addr}
theorem Push_ok_Pl (A1 : Option Addr) (l : List Int) (c1 : Nat) (hB : Below w0.heap.size w0 W) (h : Pl N W w0.heap.size q bx x y A c) (hr : Kd.C (Kd.int .u8) w0 A1 l.length l) (hc : l.length ≤ c1) (hn : (x.bs.length : Int) + l.length ≤ x.room) (hb : x.bs.length + l.length < 4294967296) :
    Calls Try.prog 13 #[.pointer (some ⟨q, 0, none⟩), .slice A1 l.length c1] W fun e w' => e = .returned (.bool true) ∧ Pl w'.heap.size w' w0.heap.size q bx ⟨x.bs ++ l, x.room, x.dr⟩ y A c ∧ Below w0.heap.size w0 w' := by
  obtain ⟨PQ, hq, h1, h2, h3, h4, h5, h6, h7, h8, h9, h10⟩ := h
  refine (Push_ok w0 W q _ x A1 l c1 hB hq.bound (read_old hr hB hq.1 (fun k hk => hk.2.1)) hc hn hb).mono ?_
  rintro e w' ⟨rfl, hq', hb', hk⟩
  have hs := hk.1
  have hne : ¬ (PQ bx ∧ w0.heap.size ≤ bx ∧ bx < W.heap.size ∨ bx = q) := fun h => h.elim (fun h => (h1 bx h.1).2 rfl) h2
  exact ⟨rfl, ⟨_, hq'.bound, fun k hp => ⟨hp.2.2, hp.1.elim (fun h => (h1 k h.1).2) (fun h => by omega)⟩, h2, by omega, by omega, Nat.le_refl _, h6, (hk.2 bx (blk_lt h7) hne).trans h7,
    C_kept h8 hk (fun a ha _ hp => hp.elim (fun hp => (h10 a ha).2.1 hp.1) (fun e => (h10 a ha).2.2.1 e)), h9, fun a ha => ⟨by have := (h10 a ha).1; omega, fun hp => hp.1.elim (fun hp => (h10 a ha).2.1 hp.1) (fun hp => by have := (h10 a ha).1; omega), (h10 a ha).2.2⟩⟩, hb'⟩
theorem Push_big_Pl (A1 : Option Addr) (n c1 : Nat) (hB : Below w0.heap.size w0 W) (h : Pl N W w0.heap.size q bx x y A c) (hn : x.room < (x.bs.length : Int) + n) (hb : x.bs.length + n < 4294967296) :
    Calls Try.prog 13 #[.pointer (some ⟨q, 0, none⟩), .slice A1 n c1] W fun e w' => e = .returned (.bool false) ∧ Pl w'.heap.size w' w0.heap.size q bx ⟨x.bs, x.room, wrap64 (x.dr + 1)⟩ y A c ∧ Below w0.heap.size w0 w' := by
  obtain ⟨PQ, hq, h1, h2, h3, h4, h5, h6, h7, h8, h9, h10⟩ := h
  refine (Push_big w0 W q _ x A1 n c1 hB hq hn hb).mono ?_
  rintro e w' ⟨rfl, hq', hb', hk⟩
  have hs := hk.1
  have hne : ¬ (PQ bx ∨ bx = q) := fun h => h.elim (fun h => (h1 bx h).2 rfl) h2
  exact ⟨rfl, ⟨_, hq', fun k hp => ⟨by have := (h1 k hp).1; omega, (h1 k hp).2⟩, h2, by omega, by omega, Nat.le_refl _, h6, (hk.2 bx (blk_lt h7) hne).trans h7,
    C_kept h8 hk (fun a ha _ hp => hp.elim (fun hp => (h10 a ha).2.1 hp) (fun e => (h10 a ha).2.2.1 e)), h9, fun a ha => ⟨by have := (h10 a ha).1; omega, (h10 a ha).2⟩⟩, hb'⟩
theorem Drain_Pl (n : Int) (hB : Below w0.heap.size w0 W) (h : Pl N W w0.heap.size q bx x y A c) (hb : x.bs.length < 4294967296) :
    Calls Try.prog 15 #[.pointer (some ⟨q, 0, none⟩), .int .i64 n] W fun e w' => ∃ A1 tl dl c1, e = .returned (.slice A1 tl.length c1) ∧ x.bs = tl ++ dl ∧ tl.length = (min (max n 0) (x.bs.length : Int)).toNat ∧ Rd w'.heap.size w' bx A1 tl ∧
      Pl w'.heap.size w' w0.heap.size q bx ⟨dl, x.room, x.dr⟩ y A c ∧ Below w0.heap.size w0 w' := by
  obtain ⟨PQ, hq, h1, h2, h3, h4, h5, h6, h7, h8, h9, h10⟩ := h
  refine (Drain_calls w0 W q _ x n hB hq hb).mono ?_
  rintro e w' ⟨v, rfl, hv, hq', hb', hk⟩
  have hs := hk.1
  have hne : ¬ (PQ bx ∨ bx = q) := fun h => h.elim (fun h => (h1 bx h).2 rfl) h2
  obtain ⟨A1, c1, rfl, hl, hc⟩ := Kd.R_reads hv
  refine ⟨A1, _, _, c1, rfl, (List.take_append_drop _ _).symm, by rw [List.length_take]; omega, ⟨hc, Nat.le_refl _, fun a ha => ?_⟩, ⟨_, hq', fun k hp => ⟨by have := (h1 k hp).1; omega, (h1 k hp).2⟩, h2, by omega, by omega, Nat.le_refl _, h6, (hk.2 bx (blk_lt h7) hne).trans h7,
    C_kept h8 hk (fun a ha _ hp => hp.elim (fun hp => (h10 a ha).2.1 hp) (fun e => (h10 a ha).2.2.1 e)), h9, fun a ha => ⟨by have := (h10 a ha).1; omega, (h10 a ha).2⟩⟩, hb'⟩
  subst ha
  have e1 := Kd.R_lt hv a.block (by obtain ⟨g, hg⟩ := Kd.R_head hv; rw [hg]; rfl)
  have e2 := hv.1 a.block (by obtain ⟨g, hg⟩ := Kd.R_head hv; rw [hg]; rfl)
  exact ⟨e1, by have := blk_lt h7; omega⟩
theorem Len_Pl (h : Pl N W w0.heap.size q bx x y A c) : Calls Try.prog 17 #[.pointer (some ⟨q, 0, none⟩)] W fun e w' => e = .returned (.int .i64 x.bs.length) ∧ Below W.heap.size W w' := by
  obtain ⟨P, hq⟩ := h.q_
  exact Len_calls W _ q P x hq
theorem Dropped_Pl (h : Pl N W w0.heap.size q bx x y A c) (hd : -9223372036854775808 ≤ x.dr ∧ x.dr ≤ 9223372036854775807) : Calls Try.prog 18 #[.pointer (some ⟨q, 0, none⟩)] W fun e w' => e = .returned (.int .i64 x.dr) ∧ Below W.heap.size W w' := by
  obtain ⟨P, hq⟩ := h.q_
  exact Dropped_calls W _ q P x hq hd
end

end Go.Proofs.Ytehnppklfaoikaa.L
