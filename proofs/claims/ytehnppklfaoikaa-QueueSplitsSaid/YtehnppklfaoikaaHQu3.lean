import Derived.Test.YtehnppklfaoikaaHCopy
/- The queue: Drain. -/
namespace Go.Proofs.Ytehnppklfaoikaa.H
open Go Go.RowKit Go.Proofs.YtehnppklfaoikaaW.PrintWords Go.Proofs.YtehnppklfaoikaaW.PrintLast Go.Proofs.YtehnppklfaoikaaW.PrintMore
set_option linter.unusedVariables false
set_option linter.unusedSimpArgs false
attribute [local go_sem] max_two min_two

theorem Drain_none (n : Int) (w : World) :
    Calls Try.prog 15 #[.pointer none, .int .i64 n] w fun e w' => e = .returned (.slice none 0 0) ∧ Below w.heap.size w w' := by
  have HB := Aside0.mk (Below.refl w.heap.size w)
  go_enter Try.func15, Try.ntmps15
  go_wp2
  go_ret
  exact ⟨rfl, by repeat (first | (with_reducible first | exact HB.out | apply below_alloc | apply pw_below_drewN | apply below_drew1) | exact HB.out)⟩

theorem infoU8i : ∃ i, Try.prog.info? 5 = some i ∧ i.size = 1 := by
  obtain ⟨i, hi, hz⟩ := Option.map_eq_some_iff.1 infoU8
  exact ⟨i, hi, by simpa using congrArg (fun z => z.2.1) hz⟩
theorem infoU8s : (Try.prog.info? 5).map (·.size) = some 1 := by
  obtain ⟨i, hi, hz⟩ := infoU8i
  rw [hi, Option.map_some, hz]
theorem cut_both (A : Option Addr) (n c : Nat) (K : Nat) (hm : K ≤ n) (hc : n ≤ c) :
    ∀ W : World, (Instr.slice 28 (.slice A n c) none (some (.int .i64 (K : Int))) (some (.int .i64 (K : Int)))).run Try.prog W = .ok (.slice A K K) W := by
  intro W
  have hel : Try.prog.elem 28 = 5 := by simp [Program.elem, Try.underlying28]
  have hu : Try.prog.underlying 28 = some (.slice (Try.prog.elem 28)) := by rw [hel]; exact Try.underlying28
  have ha : (A.map fun x => x.add 0) = A := by cases A <;> simp [Addr.add]
  obtain ⟨i, hi, hz⟩ := infoU8i
  rw [run_slice_hm W 28 A n c hu .i64 .i64 K K (by omega) (by omega) (by omega), hel]
  simp [sizeOf, typeInfo, hi, sliced, Result.andThen, ha]

set_option maxHeartbeats 1600000 in
theorem Drain_calls (w0 w : World) (q : Nat) (P : Nat → Prop) (x : QS) (n : Int) (hB : Below w0.heap.size w0 w) (h : Qu w w0.heap.size q P x) (hb : x.bs.length < 4294967296) :
    Calls Try.prog 15 #[.pointer (some ⟨q, 0, none⟩), .int .i64 n] w fun e w' => ∃ v, e = .returned v ∧ Kd.R (Kd.int .u8) 5 w' w0.heap.size (fun k => w.heap.size ≤ k) v (x.bs.take (min (max n 0) (x.bs.length : Int)).toNat) ∧
      Qu w' w0.heap.size q P ⟨x.bs.drop (min (max n 0) (x.bs.length : Int)).toNat, x.room, x.dr⟩ ∧ Below w0.heap.size w0 w' ∧ Kept w w' (fun k => P k ∨ k = q) := by
  obtain ⟨h0, sl, h1, h2⟩ := h
  obtain ⟨bs, room, dr⟩ := x
  obtain ⟨A2, c2, he2, hl2, _⟩ := Kd.R_reads h2
  subst he2
  dsimp only at *
  obtain ⟨K, hK⟩ : ∃ K : Nat, min (max n 0) (bs.length : Int) = (K : Int) := ⟨(min (max n 0) (bs.length : Int)).toNat, by omega⟩
  have hKl : K ≤ bs.length := by omega
  obtain ⟨M, hM⟩ : ∃ M : Int, M = max n 0 := ⟨_, rfl⟩
  have hmx : Builtin.max2 (.int .i64 n) (.int .i64 0) = pure (.int .i64 M) := by rw [max2_int, hM]; congr 2; split <;> omega
  have hmn : Builtin.min2 (.int .i64 M) (.int .i64 bs.length) = pure (.int .i64 (K : Int)) := by rw [min2_int, ← hK, hM]; congr 2; split <;> omega
  have hT : (min (max n 0) (bs.length : Int)).toNat = K := by omega
  rw [hT]
  clear hT hK hM
  obtain ⟨ix, hix, hiz⟩ := infoU8i
  have hs1 := cut_both A2 bs.length c2 K hKl hl2
  have hs2 := cut_from (P := Try.prog) 28 5 .i64 Try.underlying28 hix 1 hiz A2 bs.length c2 (K : Int) (by omega) (by omega)
  have hs3 := cut_to (P := Try.prog) 28 5 .i64 Try.underlying28 hix A2 bs.length c2 (((bs.length - K : Nat)) : Int) (by omega) (by omega) hl2
  simp only [Int.toNat_natCast, Nat.mul_one] at hs2 hs3
  obtain ⟨A4, hA4⟩ : ∃ A4, A4 = (if c2 = K then A2 else Option.map (fun x => x.add K) A2) := ⟨_, rfl⟩
  rw [← hA4] at hs2
  have HA4 := Aside0.mk hA4
  clear hA4
  have hc0 : w.cell? ⟨q, 0, none⟩ = some (.slice A2 bs.length c2) := (blk_cell h1 0).trans rfl
  have hz0 := blk_frozen h1 0
  have h1 := Aside0.mk h1
  have h2 := Aside0.mk (Kd.R_bound h2)
  have HB := Aside0.mk hB
  have HKl := Aside0.mk hKl
  have HL2 := Aside0.mk hl2
  have HBL := Aside0.mk hb
  clear hB hb hKl hl2 hix hiz
  go_enter Try.func15, Try.ntmps15
  go_wp2_with (first | ((with_reducible refine gate_ (.makeSlice 28 (.tmp 17) (.tmp 17)) rfl ?_); refine Kd.R_make (Kd.int .u8) (w0 := w0) w0.heap.size 5 rfl (N := 18) rfl 28 (.tmp 17) (.tmp 17) rfl (K : Int) rfl rfl Try.underlying28 (.int .u8 0) 1 infoU8 rfl (by decide) (by decide) 0 (ok := fun k => w.heap.size ≤ k) (okp := fun _ => False) rfl (fun _ h => h.elim) (Nat.le_refl _) (by omega) (by have := HKl.out; have := HBL.out; omega) HB.out (below_size HB.out) ?_; intro v1 w1 ho hb hg hat; simp only [Int.toNat_natCast] at ho; obtain ⟨A3, c3, e3⟩ := Kd.R_slice ho; rw [List.length_replicate] at e3; subst e3; have Q1 := Aside0.mk (blk_grown h1.out hg (by simp)); have hc1 : w1.cell? ⟨q, 0, none⟩ = some (.slice A2 bs.length c2) := (blk_cell Q1.out 0).trans rfl; have hz1 := blk_frozen Q1.out 0; have R1 := Aside0.mk (Kd.R_grown h2.out hg (fun k _ => by simp)); have HB1 := Aside0.mk hb; have HO1 := Aside0.mk ho; have HK1 := Aside0.mk (Kept.of_grown hg (Kept.refl w (fun k => P k ∨ k = q)) (fun k h => by cases h)); have HA1 := Aside0.mk hat; clear ho hb hg hat) | ((with_reducible refine gate_builtin (b := .copy) (xs := #[.tmp 19, .tmp 26]) rfl ?_); refine Kd.R_copy (0 : Int) (w0 := w0) w0.heap.size rfl (.tmp 19) (.tmp 26) 28 28 5 rfl Try.underlying28 infoU8s (.slice A3 K c3) (List.replicate K 0) (bs.take K) A2 K K (fun k => w.heap.size ≤ k) rfl rfl HO1.out (by have h_ := Kd.C_take (Kd.R_reads' R1.out).2.2 HKl.out; rwa [List.length_take, Nat.min_eq_left HKl.out] at h_) HB1.out (below_size HB1.out) ?_; intro w2 ho hb hg; rw [show (bs.take K).take (min K (List.replicate K (0 : Int)).length) ++ (List.replicate K (0 : Int)).drop (min K (List.replicate K (0 : Int)).length) = bs.take K by rw [List.length_replicate, Nat.min_self, List.drop_of_length_le (by simp), List.append_nil, List.take_take, Nat.min_self]] at ho; have Q2 := Aside0.mk (blk_grown Q1.out hg (Kd.R_ne HO1.out Q1.out (by decide))); have hc2 : w2.cell? ⟨q, 0, none⟩ = some (.slice A2 bs.length c2) := (blk_cell Q2.out 0).trans rfl; have hz2 := blk_frozen Q2.out 0; have R2 := Aside0.mk (Kd.R_grown R1.out hg (fun k hk he => by have h3 := HO1.out.1 k he.symm; have h4 := hk.2.2.1; omega)); have HB2 := Aside0.mk hb; have HO2 := Aside0.mk ho; have HK2 := Aside0.mk (Kept.of_grown hg HK1.out (fun k h => .inr (HO1.out.1 k h))); clear ho hb hg))
  (try simp only [Act.put, List.setIfInBounds_toArray, List.set_cons_zero, List.set_cons_succ])
  go_region_law (refine copy_step (0 : Int) w0.heap.size rfl (.tmp 31) (.tmp 37) 28 28 5 rfl Try.underlying28 infoU8s (.slice A2 bs.length c2) bs (bs.drop K) A4 (bs.length - K) (c2 - K) _ rfl rfl (Kd.R_drew R2.out) (by have h_ := Kd.C_drop (c := c2) (Kd.R_reads' (Kd.R_drew R2.out)).2.2 HKl.out HL2.out; rw [List.length_drop, show K * (Kd.int .u8).sz = K from Nat.mul_one K, ← HA4.out] at h_; exact h_) ?_; intro w3 ho hg)
  all_goals
    rw [show (bs.drop K).take (min (bs.length - K) bs.length) ++ bs.drop (min (bs.length - K) bs.length) = bs.drop K ++ bs.drop (bs.length - K) by rw [Nat.min_eq_left (Nat.sub_le _ _), List.take_of_length_le (by rw [List.length_drop]; exact Nat.le_refl _)]] at ho
    have Q3 := Aside0.mk (blk_grown (blk_drew Q2.out) hg (Kd.R_ne R2.out Q2.out (by decide)))
    have hc3 : w3.cell? ⟨q, 0, none⟩ = some (.slice A2 bs.length c2) := (blk_cell Q3.out 0).trans rfl
    have hz3 := blk_frozen Q3.out 0
    have O3 := Aside0.mk (Kd.R_grown (Kd.R_drew HO2.out) hg (fun k hk he => by have h3 := (R2.out.1 k he.symm).2.2.1; omega))
    have HB3 := Aside0.mk ((below_drew1 HB2.out).grown hg (below_size (below_drew1 HB2.out)) (fun k hk => (R2.out.1 k hk).2.1))
    have HK3 := Aside0.mk (Kept.of_grown hg (Kept.drew HK2.out) (fun k h => .inl (.inl (R2.out.1 k h).1)))
    have R3 := Aside0.mk ho
    clear ho hg
    have e3 : (bs.drop K ++ bs.drop (bs.length - K)).take (bs.length - K) = bs.drop K := by rw [List.take_append_of_le_length (by rw [List.length_drop]; exact Nat.le_refl _), List.take_of_length_le (by rw [List.length_drop]; exact Nat.le_refl _)]
    have R4 := Aside0.mk (show Kd.R (Kd.int .u8) 5 w3 w0.heap.size P (.slice A2 (bs.length - K) c2) (bs.drop K) by rw [← e3]; exact Kd.R_mono (Kd.R_take R3.out (by rw [List.length_append, List.length_drop]; omega)) (fun k hk => hk.1))
    clear e3
    go_wp2
    all_goals
      go_ret
      exact ⟨_, rfl, Kd.R_set O3.out Q3.out (by decide) 0 _, ⟨h0, _, blk_put Q3.out 0 _ rfl, Kd.R_set R4.out Q3.out (by decide) 0 _⟩, below_set HB3.out h0, Kept.setCell HK3.out (.inl (.inr rfl)) _⟩

end Go.Proofs.Ytehnppklfaoikaa.H
