import Derived.Test.YtkbepgelgcoihaaHLook
import Derived.Test.YtkbepgelgcoihaaWEqStruct
/- keys.Find -/
namespace Go.Proofs.Ytkbepgelgcoihaa.H
open Go Go.RowKit Go.Shelf Go.Proofs.YtkbepgelgcoihaaW.PrintWords Go.Proofs.YtkbepgelgcoihaaW.PrintLast Go.Proofs.YtkbepgelgcoihaaW.PrintMore
set_option linter.unusedVariables false
set_option linter.unusedSimpArgs false
attribute [local go_sem] Oper.semAt_some
theorem eqE (d : Nat) (w : World) (x0 y0 : Int) (x1 y1 : Int) (x2 y2 : Int) (x3 y3 : Int) (x4 y4 : Bool) :
    (Op.equalIn (d + 2) 24 (.agg #[.int .i64 x0, .int .u8 x1, .int .i64 x2, .int .i64 x3, .bool x4]) (.agg #[.int .i64 y0, .int .u8 y1, .int .i64 y2, .int .i64 y3, .bool y4])).run Try.prog w = .ok (x0 == y0 && (x1 == y1 && (x2 == y2 && (x3 == y3 && (x4 == y4))))) w := by
  refine eqA_of Try.underlying24 (by kernel_rfl) ?_
  refine eqf_cons (by rfl) (by go_simp; rfl) (by go_simp; rfl) (by go_simp) ?_
  refine eqf_cons (by rfl) (by go_simp; rfl) (by go_simp; rfl) (by go_simp) ?_
  refine eqf_cons (by rfl) (by go_simp; rfl) (by go_simp; rfl) (by go_simp) ?_
  refine eqf_cons (by rfl) (by go_simp; rfl) (by go_simp; rfl) (by go_simp) ?_
  exact eqf_last (by rfl) (by go_simp; rfl) (by go_simp; rfl) (by go_simp)
@[reducible] def letA (a0 : Int) : Array Value := #[.int .i64 3, .int .u8 a0, .int .i64 0, .int .i64 0, .bool false]
@[reducible] def numA (a1 : Int) : Array Value := #[.int .i64 4, .int .u8 0, .int .i64 a1, .int .i64 0, .bool false]
@[reducible] def letV (a0 : Int) : Value := .agg #[.int .i64 3, .int .u8 a0, .int .i64 0, .int .i64 0, .bool false]
@[reducible] def numV (a1 : Int) : Value := .agg #[.int .i64 4, .int .u8 0, .int .i64 a1, .int .i64 0, .bool false]
/-- Is it the one that is sought? -/
def hitB (a0 a1 : Int) (x : EntT) : Bool := (x.2.1 == 3 && (x.2.2.1 == a0 && (x.2.2.2.1 == 0 && (x.2.2.2.2.1 == 0 && x.2.2.2.2.2 == false)))) || (a0 == 126 && (x.2.1 == 4 && (x.2.2.1 == 0 && (x.2.2.2.1 == a1 && (x.2.2.2.2.1 == 0 && x.2.2.2.2.2 == false)))))
def FindC (w : World) (a0 a1 : Int) (W : World) : Prop := W.heap[w.heap.size]? = some (.cells #[.int .u8 a0] 5 (0, 0)) ∧ W.heap[w.heap.size + 3]? = some (.cells (letA a0) 24 (0, 0)) ∧ W.heap[w.heap.size + 4]? = some (.cells (numA a1) 24 (0, 0))
/-- Between two rounds. -/
def FindI (w : World) (a0 a1 : Int) (pre : List EntT) (W : World) : Prop := (∀ x ∈ pre, hitB a0 a1 x = false) ∧ FindC w a0 a1 W ∧ (W.heap[w.heap.size + 1]? = some (.cells #[.int .i64 0] 3 (0, 0)) ∧ W.heap[w.heap.size + 2]? = some (.cells #[.bool false] 4 (0, 0))) ∧ Below w.heap.size w W
/-- It has returned. -/
def FindX (w : World) (a0 a1 : Int) (c : Code) (pre : List EntT) (W : World) : Prop := c = .ret ∧ (∃ p x, pre = p ++ [x] ∧ (∀ y ∈ p, hitB a0 a1 y = false) ∧ hitB a0 a1 x = true ∧ W.heap[w.heap.size + 1]? = some (.cells #[.int .i64 x.1] 3 (0, 0)) ∧ W.heap[w.heap.size + 2]? = some (.cells #[.bool true] 4 (0, 0))) ∧ Below w.heap.size w W
@[reducible] def findFr (w : World) (a0 a1 : Int) (x : EntT) (p : Nat) : Act := { tmps := #[.int .u8 a0, .int .i64 a1, .pointer (some ⟨w.heap.size, 0, none⟩), undef, .pointer (some ⟨w.heap.size + 1, 0, none⟩), .pointer (some ⟨w.heap.size + 2, 0, none⟩), .pointer (some ⟨w.heap.size + 3, 0, none⟩), .pointer (some ⟨w.heap.size + 4, 0, none⟩), .int .i64 x.1, .pointer (some ⟨p, 0, none⟩), .int .u8 a0, letV a0, .int .i64 a1, numV a1, .func (.func 21) #[] #[], .int .i64 x.1, entV x, undef, undef, undef, undef, undef, undef, undef, undef, undef, undef, undef, undef, undef], defers := [] }
def FindA (w : World) (a0 a1 : Int) (x : EntT) (a' : Act) (W : World) : Prop := ∃ p, w.heap.size + 5 ≤ p ∧ a' = findFr w a0 a1 x p ∧ W.heap[p]? = some (.cells (entA x.2) 24 (0, 0))
theorem FindI_own (w : World) (a0 a1 : Int) (B : Nat) (hB : w.heap.size ≤ B) : OwnFrom B (FindI w a0 a1) := by
  rintro s W W' row ⟨h1, ⟨h2, h3, h4⟩, ⟨h5, h6⟩, h7⟩ hg hr
  have hr' := fun r e => (hr r e).2
  exact ⟨h1, ⟨heap_step h2 hg hr', heap_step h3 hg hr', heap_step h4 hg hr'⟩, ⟨heap_step h5 hg hr', heap_step h6 hg hr'⟩, below_step' h7 hB hg hr⟩
theorem FindX_own (w : World) (a0 a1 : Int) (B : Nat) (hB : w.heap.size ≤ B) (c : Code) : OwnFrom B (FindX w a0 a1 c) := by
  rintro s W W' row ⟨h1, ⟨p, x, hx, hn, hc, h3, h5⟩, h4⟩ hg hr
  exact ⟨h1, ⟨p, x, hx, hn, hc, heap_step h3 hg (fun r e => (hr r e).2), heap_step h5 hg (fun r e => (hr r e).2)⟩, below_step' h4 hB hg hr⟩
theorem FindA_own (w : World) (a0 a1 : Int) (B : Nat) (x : EntT) (a' : Act) : OwnFrom B (fun (_ : Unit) W => FindA w a0 a1 x a' W) := by
  rintro s W W' row ⟨p, h1, h2, h3⟩ hg hr
  exact ⟨p, h1, h2, heap_step h3 hg (fun r e => (hr r e).2)⟩
def FindPost (w : World) (a0 a1 : Int) (e : Ending) (w' : World) : Prop := (∃ pre x, pre ++ [x] <+: ENTS 21 ∧ (∀ y ∈ pre, hitB a0 a1 y = false) ∧ hitB a0 a1 x = true ∧ e = .returned (.tuple #[.int .i64 x.1, .bool true]) ∧ Below w.heap.size w w') ∨ ((∀ x ∈ ENTS 21, hitB a0 a1 x = false) ∧ e = .returned (.tuple #[.int .i64 0, .bool false]) ∧ Below w.heap.size w w')
theorem miss_next {a0 a1 : Int} {pre : List EntT} {x : EntT} (h : ∀ y ∈ pre, hitB a0 a1 y = false) (hx : hitB a0 a1 x = false) : ∀ y ∈ pre ++ [x], hitB a0 a1 y = false := by
  intro y hy
  rcases List.mem_append.mp hy with h' | h'
  · exact h y h'
  · rw [List.mem_singleton.mp h']; exact hx
theorem results_find {tmps : Array Value} {W : World} {g0 g1 : Nat} {n : Int} {b : Bool} (h4 : tmps.getD 4 undef = .pointer (some ⟨g0, 0, none⟩)) (h5 : tmps.getD 5 undef = .pointer (some ⟨g1, 0, none⟩)) (k0 : W.cell? ⟨g0, 0, none⟩ = some (.int .i64 n)) (k1 : W.cell? ⟨g1, 0, none⟩ = some (.bool b)) :
    (results Try.f13 tmps).run Try.prog W = .ok (.tuple #[.int .i64 n, .bool b]) W := by
  have hres : Try.f13.results = #[.cell 4 3, .cell 5 4] := rfl
  have u30 := Try.underlying3
  have u4 := Try.underlying4
  have h2' : tmps[4]?.getD undef = .pointer (some ⟨g0, 0, none⟩) := by simpa using h4
  have h3' : tmps[5]?.getD undef = .pointer (some ⟨g1, 0, none⟩) := by simpa using h5
  simp only [results, hres]
  simp [go_sem, Sem.run_bind, Result.andThen, h2', h3', k0, k1, u30, u4]
set_option maxRecDepth 100000 in
set_option maxHeartbeats 4000000 in
theorem find_t (a0 a1 : Int) (w : World) : Calls Try.prog 13 #[.int .u8 a0, .int .i64 a1] w (FindPost w a0 a1) := by
  refine (callsIn_wide (n := 8)).1 ?_
  refine callsIn_of_wp_marks Try.func13 rfl trivial ?_ rfl
  simp only [Try.ntmps13, List.size_toArray, List.length_cons, List.length_nil, Nat.reduceAdd, Nat.reduceSub, Array.replicate_succ, Array.replicate_zero, List.push_toArray, List.append_toArray, List.nil_append, List.cons_append]
  have hu24 := Try.underlying24
  gi_wp2
  refine ⟨trivial, ?_⟩
  refine (callsIn_wide.2 (allk_c _)).mono ?_
  rintro e w1 ⟨rfl, rfl⟩
  gi_wp2
  have b0 := blk_new w (Obj.cells #[.int .u8 a0] 5)
  have b1 := blk_new (w.alloc (Obj.cells #[.int .u8 a0] 5)) (Obj.cells #[.int .i64 0] 3)
  have b2 := blk_new ((w.alloc (Obj.cells #[.int .u8 a0] 5)).alloc (Obj.cells #[.int .i64 0] 3)) (Obj.cells #[.bool false] 4)
  have b3 := blk_new (((w.alloc (Obj.cells #[.int .u8 a0] 5)).alloc (Obj.cells #[.int .i64 0] 3)).alloc (Obj.cells #[.bool false] 4)) (Obj.cells (letA a0) 24)
  have b4 := blk_new ((((w.alloc (Obj.cells #[.int .u8 a0] 5)).alloc (Obj.cells #[.int .i64 0] 3)).alloc (Obj.cells #[.bool false] 4)).alloc (Obj.cells (letA a0) 24)) (Obj.cells (numA a1) 24)
  have c0 := blk_alloc (blk_alloc (blk_alloc (blk_alloc b0 (Obj.cells #[.int .i64 0] 3)) (Obj.cells #[.bool false] 4)) (Obj.cells (letA a0) 24)) (Obj.cells (numA a1) 24)
  have c1 := blk_alloc (blk_alloc (blk_alloc b1 (Obj.cells #[.bool false] 4)) (Obj.cells (letA a0) 24)) (Obj.cells (numA a1) 24)
  have c2 := blk_alloc (blk_alloc b2 (Obj.cells (letA a0) 24)) (Obj.cells (numA a1) 24)
  have c3 := blk_alloc b3 (Obj.cells (numA a1) 24)
  clear b0 b1 b2 b3
  simp only [World.size_alloc] at c1 c2 c3 b4
  have hB0 : Below w.heap.size w (((((w.alloc (Obj.cells #[.int .u8 a0] 5)).alloc (Obj.cells #[.int .i64 0] 3)).alloc (Obj.cells #[.bool false] 4)).alloc (Obj.cells (letA a0) 24)).alloc (Obj.cells (numA a1) 24)) := below_alloc (below_alloc (below_alloc (below_alloc (below_alloc (Below.refl _ _) _) _) _) _) _
  have hsz : (((((w.alloc (Obj.cells #[.int .u8 a0] 5)).alloc (Obj.cells #[.int .i64 0] 3)).alloc (Obj.cells #[.bool false] 4)).alloc (Obj.cells (letA a0) 24)).alloc (Obj.cells (numA a1) 24)).heap.size = w.heap.size + 5 := by simp only [World.size_alloc]
  generalize (((((w.alloc (Obj.cells #[.int .u8 a0] 5)).alloc (Obj.cells #[.int .i64 0] 3)).alloc (Obj.cells #[.bool false] 4)).alloc (Obj.cells (letA a0) 24)).alloc (Obj.cells (numA a1) 24)) = W0 at c0 c1 c2 c3 b4 hB0 hsz ⊢
  refine wpIn_rangeFunc_ownH (F := Fence.wide) (n := 8) (w := W0) rfl (by decide) (gf := 21) (lb := #[]) rfl trivial (enters_of Try.func21 (by kernel_rfl) rfl) (encs := encE)
    (keys_seq W0 w.heap.size 7 (by decide) (by omega)) (fun h k => h.trans k) (fun W l o o' hl ho hc hw => KpD.putObj (by omega) ho hc hw) (Below.refl _ _) (fun _ => rfl)
    (FindI w a0 a1) (FindX w a0 a1) (FindI_own w a0 a1 _ (by omega)) (fun c => FindX_own w a0 a1 _ (by omega) c) ⟨by simp, ⟨c0, c3, b4⟩, ⟨c1, c2⟩, hB0⟩ (FindA w a0 a1) (fun x a' => FindA_own w a0 a1 _ x a') ?assign ?body ?done ?stop
  case assign =>
    rintro l pre ⟨c, kd, fi, nu, ch, ks⟩ W K hI hK
    have hlt := blk_lt hI.2.1.2.2
    gi_wp2
    exact hK _ _ ((KeepsOthers.alloc _ _).from _) (KpD.alloc (by omega) _) ((FindI_own w a0 a1 _ (Nat.le_refl _)).alloc _ hI) ⟨W.heap.size, by omega, rfl, blk_new _ _⟩
  case body =>
    rintro l pre ⟨c, kd, fi, nu, ch, ks⟩ a' W hl hr hI ⟨p, hp, rfl, hx⟩ hlen
    have HI := Aside0.mk hI
    have HX := Aside0.mk hx
    have k0 := (blk_cell hI.2.1.1 0).trans rfl
    have x0 := (blk_cell hx 0).trans rfl
    have x1 := (blk_cell hx 1).trans rfl
    have x2 := (blk_cell hx 2).trans rfl
    have x3 := (blk_cell hx 3).trans rfl
    have x4 := (blk_cell hx 4).trans rfl
    have y0 := (blk_cell hI.2.1.2.1 0).trans rfl
    have y1 := (blk_cell hI.2.1.2.1 1).trans rfl
    have y2 := (blk_cell hI.2.1.2.1 2).trans rfl
    have y3 := (blk_cell hI.2.1.2.1 3).trans rfl
    have y4 := (blk_cell hI.2.1.2.1 4).trans rfl
    have z0 := (blk_cell hI.2.1.2.2 0).trans rfl
    have z1 := (blk_cell hI.2.1.2.2 1).trans rfl
    have z2 := (blk_cell hI.2.1.2.2 2).trans rfl
    have z3 := (blk_cell hI.2.1.2.2 3).trans rfl
    have z4 := (blk_cell hI.2.1.2.2 4).trans rfl
    have g0 := (blk_cell hI.2.2.1.1 0).trans rfl
    have g1 := (blk_cell hI.2.2.1.2 0).trans rfl
    have f0 := blk_frozen hI.2.2.1.1 0
    have f1 := blk_frozen hI.2.2.1.2 0
    clear hI hx
    obtain ⟨p1, hp1⟩ : ∃ b, (kd == 3 && (fi == a0 && (nu == 0 && (ch == 0 && ks == false)))) = b := ⟨_, rfl⟩
    obtain ⟨p2, hp2⟩ : ∃ b, (kd == 4 && (fi == 0 && (nu == a1 && (ch == 0 && ks == false)))) = b := ⟨_, rfl⟩
    obtain ⟨p3, hp3⟩ : ∃ b, (a0 == 126) = b := ⟨_, rfl⟩
    have e1 : ∀ (d : Nat) (W : World), (Op.equalIn (d + 2) 24 (.agg #[.int .i64 kd, .int .u8 fi, .int .i64 nu, .int .i64 ch, .bool ks]) (.agg #[.int .i64 3, .int .u8 a0, .int .i64 0, .int .i64 0, .bool false])).run Try.prog W = .ok p1 W := fun d W => hp1 ▸ eqE d W kd 3 fi a0 nu 0 ch 0 ks false
    have e2 : ∀ (d : Nat) (W : World), (Op.equalIn (d + 2) 24 (.agg #[.int .i64 kd, .int .u8 fi, .int .i64 nu, .int .i64 ch, .bool ks]) (.agg #[.int .i64 4, .int .u8 0, .int .i64 a1, .int .i64 0, .bool false])).run Try.prog W = .ok p2 W := fun d W => hp2 ▸ eqE d W kd 4 fi 0 nu a1 ch 0 ks false
    have HH : Aside0 (hitB a0 a1 (c, kd, fi, nu, ch, ks) = (p1 || (p3 && p2))) := ⟨by rw [← hp1, ← hp2, ← hp3]; rfl⟩
    clear hp1 hp2
    cases p1
    · cases p3
      · gi_wp2
        exact ⟨KeepsFrom.refl _ _, ⟨Below.refl _ _, fun _ _ _ h _ => h⟩, ⟨miss_next HI.out.1 HH.out, HI.out.2⟩⟩
      · cases p2
        · gi_wp2
          exact ⟨KeepsFrom.refl _ _, ⟨Below.refl _ _, fun _ _ _ h _ => h⟩, ⟨miss_next HI.out.1 HH.out, HI.out.2⟩⟩
        · gi_wp2
          exact ⟨((KeepsOthers.setCell _ _ _).trans (KeepsOthers.setCell _ _ _)).from _, rfl, ⟨pre, (c, kd, fi, nu, ch, ks), rfl, HI.out.1, HH.out, (Below.heap_setCell _ ⟨w.heap.size + 2, 0, none⟩ _ _ (by simp)).trans (blk_put HI.out.2.2.1.1 0 _ rfl), blk_put ((Below.heap_setCell _ ⟨w.heap.size + 1, 0, none⟩ _ _ (by simp)).trans HI.out.2.2.1.2) 0 _ rfl⟩, below_set (below_set HI.out.2.2.2 (by omega)) (by omega)⟩
    · gi_wp2
      exact ⟨((KeepsOthers.setCell _ _ _).trans (KeepsOthers.setCell _ _ _)).from _, rfl, ⟨pre, (c, kd, fi, nu, ch, ks), rfl, HI.out.1, HH.out, (Below.heap_setCell _ ⟨w.heap.size + 2, 0, none⟩ _ _ (by simp)).trans (blk_put HI.out.2.2.1.1 0 _ rfl), blk_put ((Below.heap_setCell _ ⟨w.heap.size + 1, 0, none⟩ _ _ (by simp)).trans HI.out.2.2.1.2) 0 _ rfl⟩, below_set (below_set HI.out.2.2.2 (by omega)) (by omega)⟩
  case done =>
    rintro D xs W hD rfl hI hK
    have HI := Aside0.mk hI
    have HK := Aside0.mk hK
    have g0 := (blk_cell hI.2.2.1.1 0).trans rfl
    have g1 := (blk_cell hI.2.2.1.2 0).trans rfl
    have f0 := blk_frozen hI.2.2.1.1 0
    have f1 := blk_frozen hI.2.2.1.2 0
    clear hI hK
    gi_wp2
    have q1 : ((W.setCell ⟨w.heap.size + 1, 0, none⟩ (.int .i64 0)).setCell ⟨w.heap.size + 2, 0, none⟩ (.bool false)).heap[w.heap.size + 1]? = some (.cells #[.int .i64 0] 3 (0, 0)) := (Below.heap_setCell _ ⟨w.heap.size + 2, 0, none⟩ _ _ (by simp)).trans (blk_put HI.out.2.2.1.1 0 _ rfl)
    have q2 : ((W.setCell ⟨w.heap.size + 1, 0, none⟩ (.int .i64 0)).setCell ⟨w.heap.size + 2, 0, none⟩ (.bool false)).heap[w.heap.size + 2]? = some (.cells #[.bool false] 4 (0, 0)) := blk_put ((Below.heap_setCell _ ⟨w.heap.size + 1, 0, none⟩ _ _ (by simp)).trans HI.out.2.2.1.2) 0 _ rfl
    have hK1 := ((KeepsOthers.setCell W ⟨w.heap.size + 1, 0, none⟩ (.int .i64 0)).trans (KeepsOthers.setCell _ ⟨w.heap.size + 2, 0, none⟩ (.bool false))).same D _ HK.out rfl
    have hB1 := below_set (g := w.heap.size + 2) (j := 0) (v := .bool false) (below_set (g := w.heap.size + 1) (j := 0) (v := .int .i64 0) HI.out.2.2.2 (by omega)) (by omega)
    refine ⟨by simp, .inl ⟨_, _, rfl, run_takeDeferred hK1, ?_⟩⟩
    have hD' : w.heap.size + 5 ≤ D := by omega
    exact ⟨_, results_find rfl rfl ((blk_cell ((World.putObj_heap_other (by omega)).trans q1) 0).trans rfl) ((blk_cell ((World.putObj_heap_other (by omega)).trans q2) 0).trans rfl), .inr ⟨HI.out.1, rfl, hB1.trans ((Below.refl _ _).grown (grownBy_putObj' _ D _) (by have := blk_lt q1; omega) (fun k e => by cases e; omega))⟩⟩
  case stop =>
    rintro D c pre W hD hpre ⟨rfl, ⟨p, x, rfl, hn, hx, q1, q2⟩, hB⟩ hK
    gi_wp2
    refine ⟨by simp, .inl ⟨_, _, rfl, run_takeDeferred hK, ?_⟩⟩
    have hD' : w.heap.size + 5 ≤ D := by omega
    exact ⟨_, results_find rfl rfl ((blk_cell ((World.putObj_heap_other (by omega)).trans q1) 0).trans rfl) ((blk_cell ((World.putObj_heap_other (by omega)).trans q2) 0).trans rfl), .inl ⟨p, x, hpre, hn, hx, rfl, hB.trans ((Below.refl _ _).grown (grownBy_putObj' _ D _) (by have := blk_lt q1; omega) (fun k e => by cases e; omega))⟩⟩
def findE (a0 a1 : Int) : Int × Bool := match (ENTS 21).find? (hitB a0 a1) with
  | some x => (x.1, true)
  | none => (0, false)
def keys_Find.f (a0 : Int) (a1 : Int) : Option (Int × Bool) := some (findE a0 a1)
theorem keys_Find.calls (a0 : Int) (a1 : Int) (r1 : Int) (r2 : Bool) (w : World) (h : keys_Find.f a0 a1 = some (r1, r2)) :
    Calls Try.prog 13 #[.int .u8 a0, .int .i64 a1] w fun e w' => e = .returned (.tuple #[.int .i64 r1, .bool r2]) ∧ Below w.heap.size w w' := by
  have e : findE a0 a1 = (r1, r2) := Option.some.inj h
  refine (find_t a0 a1 w).mono ?_
  rintro e' w' (⟨pre, x, ⟨suf, hs⟩, hn, hx, rfl, hb⟩ | ⟨hn, rfl, hb⟩)
  · have : (ENTS 21).find? (hitB a0 a1) = some x := by
      rw [← hs, List.append_assoc, List.find?_append, List.find?_eq_none.2 (fun y hy => by rw [hn y hy]; decide)]
      show ([x] ++ suf).find? _ = _
      rw [List.singleton_append, List.find?_cons_of_pos hx]
    unfold findE at e
    rw [this] at e
    cases e
    exact ⟨rfl, hb⟩
  · have : (ENTS 21).find? (hitB a0 a1) = none := List.find?_eq_none.2 (fun y hy => by rw [hn y hy]; decide)
    unfold findE at e
    rw [this] at e
    cases e
    exact ⟨rfl, hb⟩
end Go.Proofs.Ytkbepgelgcoihaa.H
