/- ModsLess, the second form: whatever the arguments, the law answers true, and the arguments read as they did. Condition: what it reads is of bulk at most 1048576 (the given form's own bound). -/
import Derived.Test.YtcjokajnlpcdiaaRows
import Derived.Test.YtcjokajnlpcdiaaR9
import Derived.Test.YtcjokajnlpcdiaaPureModsLess
import Derived.Test.YtcjokajnlpcdiaaHOpen
import Derived.WalkKit
import Derived.ProofKit
import Derived.OpenShut
import Derived.ShutString
import Derived.ChangeOld
import Derived.Below
import Derived.SizedLaws
import Derived.JoinedCond
namespace Go.Proofs.Ytcjokajnlpcdiaa.modsLess
open Go.ChangeShapes Go.WideShapes Go.ChangeAt Go.RowKit Go.Proofs.YtcjokajnlpcdiaaW.PrintWords Go.Proofs.Ytcjokajnlpcdiaa.R Go.Proofs.Ytcjokajnlpcdiaa.H
open Go.ChangeMaps (open_string shut_string)
set_option linter.unusedVariables false
theorem own : ownKnob Try.prog.godebug = none := by kernel_rfl
theorem laidOut : laidOutB Try.prog = true := by kernel_rfl
theorem part_le {H : Type} {d : DataW H} {l : List (DataW H)} (h : d ∈ l) : Rows.uptoBulk d ≤ Rows.uptoBulkAll l := by
  induction l with
  | nil => cases h
  | cons x r ih =>
    simp only [Rows.uptoBulkAll]
    cases List.mem_cons.1 h with
    | inl e => subst e; omega
    | inr e => have := ih e; omega
/-- A key's text is no longer than its bulk. -/
theorem bulk_text {H : Type} {enc : TypeId × Value → H} {W : World} {sp : Nat → Bool} {held : Bool} {a0 a1 a2 a3 a4 : Int} {s : ByteArray} {d : DataW H} {ps : List MemPlace}
    (h : DataW.Trod enc Try.prog W 0 sp held 23 (.agg #[.int .i64 a0, .int .i64 a1, .int .i64 a2, .int .i64 a3, .int .i64 a4, .string s]) d ps) : s.size ≤ Rows.uptoBulk d := by
  obtain ⟨fuel, hf⟩ := h
  obtain ⟨xs, n, _, hx, _, hlen, hfs⟩ := DataW.trod_struct Try.underlying23 hf
  have h5 := hfs 5 _ rfl
  have e : xs.length = 6 := hlen
  rw [List.getElem?_eq_getElem (show 5 < xs.length by omega)] at h5
  have hc : Try.prog.cellsOf 9 = 1 := by kernel_rfl
  obtain ⟨s', hs, hx5, _⟩ := DataW.trod_string Try.underlying9 h5
  have hs' : [Value.string s] = [Value.string s'] := by
    rw [← hs]
    show _ = (List.drop 5 [Value.int .i64 a0, .int .i64 a1, .int .i64 a2, .int .i64 a3, .int .i64 a4, .string s]).take (Try.prog.cellsOf 9)
    rw [hc]
    rfl
  obtain rfl : s = s' := by injection hs' with h1; injection h1
  have hd : d = .agg (xs.map (·.1)) := (Prod.mk.inj hx).1
  rw [hd]
  have hm : (DataW.lit (.string s.data.toList) : DataW H) ∈ xs.map (·.1) := List.mem_map.2 ⟨xs[5], List.getElem_mem _, by rw [hx5]⟩
  have := part_le hm
  simp only [Rows.uptoBulk] at this ⊢
  rw [Array.length_toList] at this
  have e2 : s.data.size = s.size := rfl
  omega
set_option maxRecDepth 100000 in
set_option maxHeartbeats 1000000 in
theorem lifted (os : Os) (started : os.Started) (H : Type) (enc : TypeId × Value → H) (F : Stop.Interp) :
    ReturnsInHanded {} Try.checked os 6 .any ((Rows.OpenSpec.upto Rows.modsLessSpec).pre6 enc Try.prog Try.f6 Rows.modsLessUptoRow.domain false) (((Rows.OpenSpec.upto Rows.modsLessSpec).at F).post enc Try.prog Try.f6 false true false false) := by
  refine returnsInHanded_of_cond (C := Try.checked) (s := Rows.OpenSpec.upto Rows.modsLessSpec) (k := Rows.uptoSmall) rfl own started (by kernel_rfl) Try.func6
    (OpenSpec.witness (enc := enc) (C := Try.checked) (s := Rows.OpenSpec.upto Rows.modsLessSpec) (k := Rows.uptoSmall) rfl false ⟨#[], #[.agg #[.int .i64 0, .int .i64 0, .int .i64 0, .int .i64 0, .int .i64 0, .string ByteArray.empty], .int .u8 0], []⟩ 8 (by kernel_rfl) (by kernel_rfl) (by kernel_rfl)
      (x := ([.agg [.lit (.int .i64 0), .lit (.int .i64 0), .lit (.int .i64 0), .lit (.int .i64 0), .lit (.int .i64 0), .lit (.string [])], .lit (.int .u8 0)], [], [])) (by kernel_rfl) rfl (by kernel_rfl)) ?_
  intro W base args ds gs before hval0 hW hcnd hsmall _
  have hval : ∀ (j : Nat) t v, Try.f6.params[j]? = some t → args[j]? = some v → Value.okWide Try.prog W .any base t v := hval0
  have hW' := hW
  obtain ⟨p, q, hA0, hV, rfl, hfz, hnd⟩ := hW
  have hA : DataW.TrodAll enc Try.prog W 0 (fun _ => true) true Try.f6.params.toList args.toList ds p := hA0
  rw [Try.params6] at hA hval
  obtain ⟨v0, vs0, d0, ds0, p0, q0, hargs, rfl, rfl, h0, r0⟩ := trodAll_cons hA
  obtain ⟨v1, vs1, d1, ds1, p1, q1, rfl, rfl, rfl, h1, r1⟩ := trodAll_cons r0
  obtain ⟨rfl, rfl, rfl⟩ := trodAll_nil r1
  obtain rfl : args = #[v0, v1] := by cases args; simp_all
  obtain ⟨rfl, rfl⟩ := trodVars_none hV
  have k0 := h0
  have lt0 : ∀ x ∈ p0, x.block < W.heap.size := by obtain ⟨m, hm⟩ := k0; exact DataW.trod_lt m _ _ _ hm
  obtain ⟨cs0, rfl, _⟩ := okWide_struct Try.underlying23 (hval 0 23 v0 rfl rfl)
  obtain ⟨⟨a0_0, a0_1, a0_2, a0_3, a0_4, a0_5⟩, hK0, hg0⟩ := opens_arg (opens_struct Try.underlying23 (by kernel_rfl) rfl (opensF_cons (opens_int Try.underlying3) (by kernel_rfl) rfl (opensF_cons (opens_int Try.underlying3) (by kernel_rfl) rfl (opensF_cons (opens_int Try.underlying3) (by kernel_rfl) rfl (opensF_cons (opens_int Try.underlying3) (by kernel_rfl) rfl (opensF_cons (opens_int Try.underlying3) (by kernel_rfl) rfl (opensF_last (opens_string Try.underlying9) (by kernel_rfl) rfl rfl))))))) h0
  obtain ⟨_, _, hcs0, rfl, ⟨_, _, rfl, rfl, ⟨_, _, rfl, rfl, ⟨_, _, rfl, rfl, ⟨_, _, rfl, rfl, rfl⟩⟩⟩⟩⟩ := hK0
  obtain ⟨g0_0, g0_1, g0_2, g0_3, g0_4, g0_5⟩ := hg0
  obtain rfl : cs0 = #[.int .i64 a0_0, .int .i64 a0_1, .int .i64 a0_2, .int .i64 a0_3, .int .i64 a0_4, .string a0_5] := by
    have e := congrArg List.toArray hcs0
    simpa [Value.cells] using e
  have k1 := h1
  have lt1 : ∀ x ∈ p1, x.block < W.heap.size := by obtain ⟨m, hm⟩ := k1; exact DataW.trod_lt m _ _ _ hm
  obtain ⟨a1, rfl, rfl, rfl, g1⟩ := open_int Try.underlying5 (hval 1 5 v1 rfl rfl) h1
  clear hA0 hval0
  have u0 : a0_5.size ≤ 1048576 := by
    have h1 := bulk_text k0
    have h2 := of_decide_eq_true hsmall
    simp only [Rows.uptoBulkAll, List.append_nil] at h2
    omega
  obtain ⟨k, hk⟩ := Pure.ModsLess a0_0 a0_1 a0_2 a0_3 a0_4 a0_5 a1 g0_0 g0_1 g0_2 g0_3 g0_4 g0_5 g1 u0
  refine (clavierlaw10_ModsLess.calls k a0_0 a0_1 a0_2 a0_3 a0_4 a0_5 a1 true W hk).mono fun e W' ⟨he, bel0⟩ => ?_
  have bel : Below W.heap.size W W' := bel0
  subst he
  exact ⟨_, rfl, _, _, _, [], _, [], hW', trodAll_mk1 (shut_bool Try.underlying4 _), (trodAll_cons_mk (Below.trod laidOut (by kernel_rfl) (of_decide_eq_true (by kernel_rfl)) k0 bel lt0) (trodAll_cons_mk (Below.trod laidOut (by kernel_rfl) (of_decide_eq_true (by kernel_rfl)) k1 bel lt1) trodAll_mk0)), rfl, bel.frame _, fun h => by cases h⟩
theorem over : Rows.modsLessUptoRow.holds Try.pinned (Rows.OpenSpec.upto Rows.modsLessSpec) :=
  OpenClaim.holds_of_cond 6 Try.f6 rfl rfl rfl rfl rfl rfl rfl ⟨rfl, rfl, rfl, rfl, rfl⟩ rfl rfl rfl rfl rfl (by kernel_rfl) Try.func6 (by kernel_rfl)
    (of_decide_eq_true (by kernel_rfl)) (by unfold Func.isWrapper; first | (rw [if_pos (by decide +kernel)]; kernel_rfl) | (rw [if_neg (by decide +kernel)]; exact ⟨rfl, rfl⟩))
    (fun os started H enc _ F => lifted os started H enc F)
theorem proved : Rows.ModsLessUptoSaid := over
#print axioms proved
end Go.Proofs.Ytcjokajnlpcdiaa.modsLess
namespace Go.Proofs.Ytcjokajnlpcdiaa
/-- The row, under a short name, for the claim. -/
theorem modsLessUpto_holds : Rows.ModsLessUptoSaid := modsLess.proved
end Go.Proofs.Ytcjokajnlpcdiaa
