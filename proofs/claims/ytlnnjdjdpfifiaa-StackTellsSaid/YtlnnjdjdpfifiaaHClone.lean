import Derived.Test.YtlnnjdjdpfifiaaProg
import Derived.Test.YtlnnjdjdpfifiaaWWords
import Derived.Test.YtlnnjdjdpfifiaaWLast
import Derived.Test.YtlnnjdjdpfifiaaWGuard
import Derived.Test.YtlnnjdjdpfifiaaWMore
import Derived.Test.YtlnnjdjdpfifiaaWApart
import Derived.Lib.SliceRun
import Derived.WalkSpells
/- slices.Clone at a list of ints: what comes back is a row of the call's own that holds what was there. -/
namespace Go.Proofs.Ytlnnjdjdpfifiaa.H
open Go.RowKit Go.Proofs.YtlnnjdjdpfifiaaW.PrintWords Go.Proofs.YtlnnjdjdpfifiaaW.PrintLast Go.Proofs.YtlnnjdjdpfifiaaW.PrintMore
set_option linter.unusedVariables false
set_option linter.unusedSimpArgs false
theorem info3 : (Try.prog.info? 3).map (fun i => (i.zero, i.size, i.bytes)) = some (some (.int .i64 0), 1, 8) := by kernel_rfl

def slices_Clone_int_int.f (l0 : List Int) : Option (List Int) := if l0.length < 17592186044416 then some l0 else none

theorem clone_nil (c0 : Nat) (w : World) : Calls Try.prog 23 #[.slice none 0 c0] w fun e w' => e = .returned (.slice none 0 0) ∧ w' = w := by
  have qT : ∀ (w : World) (a : Option Addr) (n c n' c' : Nat), (binOp .eql 22 (.slice a n c) (.slice none n' c')).run Try.prog w = .ok (.bool a.isNone) w := fun w a n c n' c' => Lib.run_eql_slice_nil w _ _ a n c n' c' Try.underlying22
  go_enter Try.func23, Try.ntmps23
  go_wp2
  go_ret
  exact ⟨rfl, rfl⟩

set_option maxHeartbeats 1000000 in
theorem clone_some (ad : Addr) (c0 : Nat) (l0 : List Int) (w : World) (hr0 : Kd.C (Kd.int .i64) w (some ad) l0.length l0) (hc0 : l0.length ≤ c0) (hl : l0.length < 17592186044416) :
    Calls Try.prog 23 #[.slice (some ad) l0.length c0] w fun e w' => ∃ v0_ : Value, e = .returned (v0_) ∧ Kd.R (Kd.int .i64) 3 w' w.heap.size (fun _ => True) v0_ l0 ∧ Below w.heap.size w w' := by
  have qT : ∀ (w : World) (a : Option Addr) (n c n' c' : Nat), (binOp .eql 22 (.slice a n c) (.slice none n' c')).run Try.prog w = .ok (.bool a.isNone) w := fun w a n c n' c' => Lib.run_eql_slice_nil w _ _ a n c n' c' Try.underlying22
  have HR := Aside0.mk hr0
  have HL := Aside0.mk hl
  clear hr0 hl
  go_enter Try.func23, Try.ntmps23
  go_wp2_with (first | ((with_reducible refine gate_dst (N := 5) rfl ?_); refine Kd.R_lit (Kd.int .i64) _ 3 ?hg (N := 5) ?hd (xs := ([] : List Int)) (inner := []) (ok := fun _ => True) (okp := fun _ => True) ?hr ?hp (fun _ hk => hk) trivial (Below.refl _ _) (Nat.le_refl _) (by simp) ?_; (case hd => rfl); (case hg => rfl); (case hr => first | (go_simp; done) | (go_simp; rfl)); (case hp => exact (Reps.none _ _)); intro v130 w12 ho13 hb hg_ hnew_; clear hg_ hnew_; have HO := Aside0.mk ho13; have HB := Aside0.mk hb; clear ho13 hb) | ((with_reducible refine gate_builtin (b := .append) (xs := #[.tmp 5, .tmp 6]) rfl ?_); at_builtin; refine Kd.R_append_rows (Kd.int .i64) (w0 := w) w.heap.size rfl (.tmp 5) (.tmp 6) 22 3 (.int .i64 0) 8 rfl Try.underlying22 info3 rfl (by decide) (by omega) v130 [] l0 _ _ _ (fun _ => True) (fun _ => False) rfl rfl ?aO ?aR (fun _ _ h => h) (fun _ h => h.elim) ?aF ?aB ?aS ?aL ?_; (case aR => exact (Kd.C_below HR.out HB.out)); (case aB => exact HB.out); (case aF => exact (fun _ _ => trivial)); (case aO => exact HO.out); (case aS => exact HB.out.size); (case aL => have := HL.out; simp; omega); intro v133 w16 ho hb hg hat; have HO2 := Aside0.mk ho; have HB2 := Aside0.mk hb; clear ho hb hg hat))
  go_ret
  exact ⟨_, rfl, HO2.out, HB2.out⟩

theorem slices_Clone_int_int.calls (A0 : Option Addr) (c0 : Nat) (l0 : List Int) (r : List Int) (w : World) (hr0 : Kd.C (Kd.int .i64) w A0 l0.length l0) (hc0 : l0.length ≤ c0) (h : slices_Clone_int_int.f l0 = some r) :
    Calls Try.prog 23 #[.slice A0 l0.length c0] w fun e w' => ∃ v0_ : Value, e = .returned (v0_) ∧ Kd.R (Kd.int .i64) 3 w' w.heap.size (fun _ => True) v0_ r ∧ Below w.heap.size w w' := by
  unfold slices_Clone_int_int.f at h
  by_cases hl : l0.length < 17592186044416
  · rw [if_pos hl] at h
    obtain rfl := Option.some.inj h
    cases A0 with
    | none =>
      have h0 : l0 = [] := by
        cases l0 with
        | nil => rfl
        | cons x l => obtain ⟨ad, e, _⟩ := hr0.2.2 (by simp); cases e
      subst h0
      refine (clone_nil c0 w).mono ?_
      rintro e w' ⟨rfl, rfl⟩
      exact ⟨_, rfl, Kd.R_nil _ _ _ _ _, Below.refl _ _⟩
    | some ad => exact clone_some ad c0 l0 w hr0 hc0 hl
  · rw [if_neg hl] at h
    cases h
end Go.Proofs.Ytlnnjdjdpfifiaa.H
