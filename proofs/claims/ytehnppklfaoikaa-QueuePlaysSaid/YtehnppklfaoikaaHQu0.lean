import Derived.Test.YtehnppklfaoikaaProg
import Derived.Test.YtehnppklfaoikaaWWords
import Derived.Test.YtehnppklfaoikaaWLast
import Derived.Test.YtehnppklfaoikaaWMore
import Derived.BigRegion
import Derived.Laws.LoneSync
import Derived.RegionCalls
/- The queue: what a pointer to one says, and its small methods. -/
namespace Go.Proofs.Ytehnppklfaoikaa.H
open Go Go.RowKit Go.Proofs.YtehnppklfaoikaaW.PrintWords Go.Proofs.YtehnppklfaoikaaW.PrintLast Go.Proofs.YtehnppklfaoikaaW.PrintMore
set_option linter.unusedVariables false
set_option linter.unusedSimpArgs false

theorem run_add (W : World) (b o : Nat) (x y : Int) (hc : W.cell? ⟨b, o, none⟩ = some (.int .i64 x)) (hz : W.frozen? ⟨b, o, none⟩ = false) :
    (callFunc 21 #[.pointer (some ⟨b, o, none⟩), .int .i64 y]).run Try.prog W = .ok (.value (.int .i64 (wrap64 (x + y)))) (W.setCell ⟨b, o, none⟩ (.int .i64 (wrap64 (x + y)))) :=
  run_call_add Try.func21 (by kernel_rfl) (by kernel_rfl) (by kernel_rfl) .i64 (by kernel_rfl) hc hz (by simp [go_sem, wrap64, IntKind.wrap_i64])
theorem run_get (W : World) (b o : Nat) (x : Int) (hc : W.cell? ⟨b, o, none⟩ = some (.int .i64 x)) :
    (callFunc 22 #[.pointer (some ⟨b, o, none⟩)]).run Try.prog W = .ok (.value (.int .i64 x)) W :=
  run_call_load Try.func22 (by kernel_rfl) (by kernel_rfl) (by kernel_rfl) .i64 (by kernel_rfl) hc

theorem Add_calls (b : Nat) (x y : Int) (w : World) (hc : w.cell? ⟨b, 2, none⟩ = some (.int .i64 x)) (hz : w.frozen? ⟨b, 2, none⟩ = false) :
    Calls Try.prog 19 #[.pointer (some ⟨b, 2, none⟩), .int .i64 y] w fun e w' => e = .returned (.int .i64 (wrap64 (x + y))) ∧ w' = w.setCell ⟨b, 2, none⟩ (.int .i64 (wrap64 (x + y))) := by
  have hd := fun W h1 h2 => run_add W b 2 x y h1 h2
  go_enter Try.func19, Try.ntmps19
  go_wp2
  go_ret
  exact ⟨rfl, rfl⟩
theorem Load_calls (b : Nat) (x : Int) (w : World) (hc : w.cell? ⟨b, 2, none⟩ = some (.int .i64 x)) :
    Calls Try.prog 20 #[.pointer (some ⟨b, 2, none⟩)] w fun e w' => e = .returned (.int .i64 x) ∧ w' = w := by
  have hd := fun W h1 => run_get W b 2 x h1
  go_enter Try.func20, Try.ntmps20
  go_wp2
  go_ret
  exact ⟨rfl, rfl⟩

end Go.Proofs.Ytehnppklfaoikaa.H
