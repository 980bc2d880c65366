import Derived.Test.YtpljdaahkiabkaaHTell
/- A store into a box as an event: the world behind it as a letter. -/
namespace Go.Proofs.Ytpljdaahkiabkaa.H
open Go Go.RowKit Go.Proofs.YtpljdaahkiabkaaW.PrintWords
theorem store_event {P : Program} {ops : Array Oper} {rest : List Oper} {o : Oper} {a : Act} {Q : Exit → Act → World → Prop} {W : World} (hgd : o.guard = none) (hN : o.dst = none) (t : TypeId) (p x : Operand) (ho : o.op = .store t p x) (g off : Nat) (e : TypeId) (cur : Array Value)
    (hh : W.heap[g]? = some (.cells cur e (0, 0))) (hp : a.eval p = .pointer (some ⟨g, off, none⟩)) (u : Value) (hx : a.eval x = u) (seg : List Value) (hu : u.cells.toList = seg) (ht : (P.info? t).map (·.size) = some seg.length) (hfit : off + seg.length ≤ cur.size)
    (h1 : ∀ q ∈ seg, q.oneCell' = true) (cs' : Array Value) (hcs : cs'.toList = cur.toList.take off ++ seg ++ cur.toList.drop (off + seg.length))
    (h : ∀ w', w'.heap[g]? = some (.cells cs' e (0, 0)) → W.grownBy w' (some g) → wpList P ops Q rest a w') : wpList P ops Q (o :: rest) a W := by
  refine wpList_plain hgd fun K hK => ?_
  have hrun := run_store_run (P := P) t u seg hh hu ht hfit h1
  unfold Oper.wp execOp
  simp only [ho, hp, hx, Sem.run_bind, Sem.run_pure, Result.andThen_ok, hrun]
  show K (a.put o.dst undef) _
  rw [hN]
  obtain ⟨cur', k1, k2, k3⟩ := setCells_row seg off W cur hh hfit
  obtain ⟨s1, s2, s3, s4⟩ := setCells_same g seg off W
  have ec : cur' = cs' := by
    have h2 : cur'.toList = cs'.toList := by rw [k3, hcs]
    exact Array.toList_inj.1 h2
  subst ec
  exact hK a _ (h _ k1 ⟨s1, s2, s3, by rw [s4]; exact Nat.le_refl _, fun k _ hk => setCells_far seg off k (fun he => hk (by rw [he]))⟩)
end Go.Proofs.Ytpljdaahkiabkaa.H
