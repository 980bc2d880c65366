import Derived.Test.YtehnppklfaoikaaHQu2
import Derived.Deep.RegionLaw
/- copy into a row of one's own as one step of a region that draws its order; the source may be the same row. -/
namespace Go.Proofs.Ytehnppklfaoikaa.H
open Go Go.RowKit Go.Proofs.YtehnppklfaoikaaW.PrintWords Go.Proofs.YtehnppklfaoikaaW.PrintLast Go.Proofs.YtehnppklfaoikaaW.PrintMore
set_option linter.unusedVariables false
set_option linter.unusedSimpArgs false

theorem copy_run {P : Program} {α : Type} {enc : α → Value} {h1 : ∀ x, (enc x).oneCell' = true} (d : α) {W : World} (base : Nat) (t t' e u : TypeId)
    (ht : P.underlying t = some (.slice e)) (hinfo : (P.info? e).map (·.size) = some 1) (v : Value) (xs ys : List α) (A : Option Addr) (m c : Nat) (ok : Nat → Prop)
    (HO : (Kd.scalar enc h1).R e W base ok v xs) (HR : (Kd.scalar enc h1).C W A m ys) :
    ∃ w1, (Builtin.copy_ #[t, t'] u #[v, .slice A m c]).run P W = .ok (goInt ((min m xs.length : Nat) : Int)) w1 ∧ (Kd.scalar enc h1).R e w1 base ok v (ys.take (min m xs.length) ++ xs.drop (min m xs.length)) ∧ W.grownBy w1 v.ownBlock := by
  have hR := Kd.reads_of_C (enc := enc) (d := d) (h1 := h1) HR
  have hm : ys.length = m := hR.1
  have hown := Kd.own_of_R HO
  rcases Nat.eq_zero_or_pos (min m xs.length) with h0 | hp
  · obtain ⟨A', c', hv⟩ := own_slice hown
    refine ⟨W, ?_, by rw [h0, List.take_zero, List.drop_zero, List.nil_append]; exact HO, World.grownBy.refl W _⟩
    rw [h0, hv]
    exact run_copy_none W t t' u e A' A xs.length c' m c ht hinfo h0
  · obtain ⟨ad, hA, hc⟩ := hR.2.2 (by omega)
    rcases hown.2 with ⟨_, hx0⟩ | ⟨g, cap, cur, hv, hb, hh, hnc, hcm, hcs, htake⟩
    · omega
    have hcs1 : cur.size = cap := by omega
    have hln : (ys.take (min m xs.length) ++ xs.drop (min m xs.length)).length = xs.length := by
      rw [List.length_append, List.length_take, List.length_drop]
      omega
    have hkl : (encs enc (ys.take (min m xs.length))).length = min m xs.length := by rw [encs_length, List.length_take]; omega
    have hsrc : ∀ j z, (encs enc (ys.take (min m xs.length)))[j]? = some z → W.cell? (ad.add j) = some z := by
      intro j z hz
      have hj : j < (ys.take (min m xs.length)).length := by
        have := (List.getElem?_eq_some_iff.1 hz).1
        rwa [encs_length] at this
      have hjm : j < min m xs.length := by rw [List.length_take] at hj; omega
      rw [encs_get (d := d) _ j hj] at hz
      rw [hc j (by omega), ← hz]
      simp [List.getD_eq_getElem?_getD, hjm]
    have hr := run_copy_cells (P := P) W t t' u e g 0 xs.length cap ad m c (encs enc (ys.take (min m xs.length))) ht hinfo (by rw [hkl]) hsrc
      (fun j hj => by rw [cell_of_row W g _ cur e (0, 0) hh]; simp; omega) (fun j _ => blk_frozen hh _) (by intro z hz; simp only [encs, List.mem_map] at hz; obtain ⟨q, _, rfl⟩ := hz; exact h1 q)
    obtain ⟨cur', h3, h4, h5⟩ := setCells_row (encs enc (ys.take (min m xs.length))) 0 W cur hh (by rw [hkl]; omega)
    obtain ⟨s1, s2, s3, s4⟩ := setCells_same g (encs enc (ys.take (min m xs.length))) 0 W
    refine ⟨_, by rw [hv, hA, hr, hkl], Kd.R_of_own ?_ HO.1, ⟨s1, s2, s3, by rw [s4]; exact Nat.le_refl _, fun k _ hk => setCells_far _ _ k (fun he => hk (by rw [hv, he]; simp [Value.ownBlock]))⟩⟩
    rw [hln]
    refine ⟨by rw [encs_length, hln, Nat.mul_one], .inr ⟨g, cap, cur', hv, hb, h3, hnc, hcm, by rw [h4, hcs], ?_⟩⟩
    have htk : cur.toList.take xs.length = encs enc xs := by rw [← htake, Nat.mul_one]
    have hd : encs enc (xs.drop (min m xs.length)) = (encs enc xs).drop (min m xs.length) := by simp [encs, List.map_drop]
    rw [h5, List.take_zero, List.nil_append, hkl, Nat.zero_add, encs_append, Nat.mul_one, List.take_append, hkl, List.take_of_length_le (by rw [hkl]; omega), hd, ← htk, List.drop_take]

/-- The same as a step of a region that draws. -/
theorem copy_step {P : Program} {ops : Array Oper} {o : Oper} {a : Act} {Q : Exit → Act → World → Prop} {Kc : Act → World → Prop} {E : Prop} {α : Type} {enc : α → Value} {h1 : ∀ x, (enc x).oneCell' = true} (d : α) {W : World} (base : Nat) (hgd : o.guard = none) (s x : Operand) (t t' e : TypeId)
    (ho : o.op = .call { callee := .builtin .copy, args := #[s, x], argTypes := #[t, t'] }) (ht : P.underlying t = some (.slice e)) (hinfo : (P.info? e).map (·.size) = some 1)
    (v : Value) (xs ys : List α) (A : Option Addr) (m c : Nat) (ok : Nat → Prop) (hs : a.eval s = v) (hx : a.eval x = .slice A m c)
    (HO : (Kd.scalar enc h1).R e W base ok v xs) (HR : (Kd.scalar enc h1).C W A m ys)
    (h : ∀ w1, (Kd.scalar enc h1).R e w1 base ok v (ys.take (min m xs.length) ++ xs.drop (min m xs.length)) → W.grownBy w1 v.ownBlock → Kc (a.put o.dst (.int .i64 ((min m xs.length : Nat) : Int))) w1) :
    if Region.wanted o (yielded ops a.tmps) = true then Oper.wp P o a W Kc Q else E := by
  have hw : Region.wanted o (yielded ops a.tmps) = true := by simp [Region.wanted, hgd]
  rw [if_pos hw]
  obtain ⟨w1, hr, h2, h3⟩ := copy_run (P := P) d base t t' e o.type ht hinfo v xs ys A m c ok HO HR
  unfold Oper.wp execOp
  simp only [ho, resolve, invoke, builtin, Sem.run_bind, Sem.run_pure, Result.andThen_ok, List.map_toArray, List.map_cons, List.map_nil, hs, hx, hr]
  exact h w1 h2 h3

end Go.Proofs.Ytehnppklfaoikaa.H
