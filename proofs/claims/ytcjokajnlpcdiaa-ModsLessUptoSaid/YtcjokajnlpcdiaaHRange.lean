import Derived.Test.YtcjokajnlpcdiaaProg
import Derived.RangeFuncNested
import Derived.RangeFuncBound
import Derived.RangeFuncCalls
import Derived.RangeFuncLeaves
import Derived.Below
/- A range over a function that keeps its state in a cell of its own (block b): each round goes on, or returns. The kit's laws let an iterator store nowhere; here the loop's two blocks of book-keeping are shown to bear such a store. -/
namespace Go.Proofs.Ytcjokajnlpcdiaa.H
open Go Go.RowKit
variable {F : Fence} {n : Nat} {P : Program} {α : Type}

/-- What bears a store into the block b. -/
def Bears (b : Nat) (J : List α → World → Prop) : Prop := ∀ s W v, J s W → J s (W.setCell ⟨b, 0, none⟩ v)
/-- The loop's two blocks, from D on: what is deferred (nothing), and the loop's record. -/
def Book (D : Nat) (r : Loop) (W : World) : Prop := W.heap[D + 1]? = some (.loop r) ∧ W.heap[D]? = some (.deferred (some []))
theorem Book.lt {D : Nat} {r : Loop} {W : World} (h : Book D r W) : D + 1 < W.heap.size := (Array.getElem?_eq_some_iff.1 h.1).1
theorem Book.cell {D b : Nat} {r : Loop} {W : World} (h : Book D r W) (hb : b < D) (v : Value) : Book D r (W.setCell ⟨b, 0, none⟩ v) :=
  have far : ∀ k, D ≤ k → (W.setCell ⟨b, 0, none⟩ v).heap[k]? = W.heap[k]? := fun k hk => Below.heap_setCell W ⟨b, 0, none⟩ v k (fun e => by have : k = b := e; omega)
  ⟨(far _ (by omega)).trans h.1, (far _ (Nat.le_refl _)).trans h.2⟩
theorem Book.walk {D : Nat} {r : Loop} {W W' : World} {row : Option Nat} (h : Book D r W) (hg : W.grownBy W' row) (hr : ∀ k, row = some k → ∃ o : Obj, W.heap[k]? = some o ∧ o.isWalk = true) : Book D r W' :=
  ⟨(grownBy_keeps hg hr h.1 rfl).trans h.1, (grownBy_keeps hg hr h.2 rfl).trans h.2⟩
theorem Book.put {D : Nat} {r r' : Loop} {W : World} (h : Book D r W) : Book D r' (W.putObj (D + 1) (.loop r')) :=
  ⟨World.putObj_heap_same h.lt, (World.putObj_heap_other (by omega)).trans h.2⟩
theorem Book.keep {D : Nat} {r : Loop} {W W' : World} (h : Book D r W) (hk : KeepsFrom D W W') : Book D r W' := ⟨hk.same _ _ (by omega) h.1 rfl, hk.same _ _ (Nat.le_refl _) h.2 rfl⟩
theorem Book.new (w : World) (r : Loop) : Book w.heap.size r ((w.alloc (.deferred (some []))).alloc (.loop r)) := by
  constructor
  · have := World.alloc_heap_new (w.alloc (.deferred (some []))) (.loop r)
    rwa [World.size_alloc] at this
  · exact (Below.heap_alloc _ _ _ (by simp)).trans (World.alloc_heap_new w _)

/-- What a round that goes on keeps: whatever lay below n₀, and the iterator's cell. -/
structure Keeps (n₀ b : Nat) (W W' : World) : Prop where
  low : Below n₀ W W'
  cell : W'.heap[b]? = W.heap[b]?
theorem Keeps.trans {n₀ b : Nat} {X Y Z : World} (h : Keeps n₀ b X Y) (k : Keeps n₀ b Y Z) : Keeps n₀ b X Z := ⟨h.low.trans k.low, k.cell.trans h.cell⟩
/-- How a round may end: it goes on, or it returns. -/
def RoundEnd (D n₀ b : Nat) (I Ix : List α → World → Prop) (xs : List α) (W : World) : Exit → Act → World → Prop
  | .normal, _, W' => KeepsFrom D W W' ∧ Keeps n₀ b W W' ∧ I xs W'
  | .ret, _, W' => KeepsFrom D W W' ∧ Ix xs W'
  | _, _, _ => False
/-- The iterator's contract: whatever the rounds make of it. -/
def SeqCell (b n₀ : Nat) (F : Fence) (n : Nat) (P : Program) (gf : Nat) (lb : Array Value) (encs : α → Array Value) (all : List α) (W : World) : Prop :=
  ∀ (l : Nat) (J Jx : List α → World → Prop), AbidesFrom W.heap.size J → AbidesFrom W.heap.size Jx → Bears b J → Bears b Jx →
    (∀ pre x W1, J pre W1 → (pre ++ [x]) <+: all → YieldAt F (n - 1) P l (encs x) W1 fun e W' =>
      (e = .returned (.bool true) ∧ J (pre ++ [x]) W' ∧ Keeps n₀ b W1 W') ∨ (e = .returned (.bool false) ∧ Jx (pre ++ [x]) W')) →
    J [] W →
    CallsIn F n P gf (#[.func (.yield l) #[] #[]] ++ lb) W fun e W' => (∃ v, e = .returned v) ∧ (J all W' ∨ ∃ pre, pre <+: all ∧ Jx pre W')

theorem low_put {w W : World} {n₀ b : Nat} (hn : n₀ ≤ w.heap.size) (hb : b < w.heap.size) {r : Loop} (r' : Loop) (h : W.heap[w.heap.size + 1]? = some (.loop r)) : Keeps n₀ b W (W.putObj (w.heap.size + 1) (.loop r')) :=
  ⟨belowK_b hn W _ _ _ (by omega) h rfl rfl, World.putObj_heap_other (by omega)⟩

/-- One round, as the iterator sees it. -/
theorem yield_at {w : World} {n₀ b m : Nat} (hn : n₀ ≤ w.heap.size) (hbw : b < w.heap.size) (r : Loop) (hready : r.state = .ready) (hnone : r.pending = none) (hfn : F.fn r.fn)
    {I Ix : List α → World → Prop} (hI : OwnFrom w.heap.size I) (hIx : OwnFrom w.heap.size Ix) {args : Array Value} (hsz : args.size = r.params.size)
    (pre xs : List α) (W : World) (hi : I pre W) (hb : Book w.heap.size r W) (a₁ : Act)
    (hassign : ∀ K : Act → World → Prop, K a₁ W → r.assign.wpIn (F.inRound (w.heap.size + 1)) m P (Exit.then K (fun _ _ _ => False)) { tmps := (r.params.zip args).foldl (fun t (p, v) => t.setIfInBounds p v) r.tmps, defers := [] } W)
    (hbody : ∀ W, I pre W → r.body.wpIn (F.inRound (w.heap.size + 1)) m P (RoundEnd w.heap.size n₀ b I Ix xs W) a₁ W) :
    YieldAt F m P (w.heap.size + 1) args W fun e W' => (e = .returned (.bool true) ∧ (I xs W' ∧ Book w.heap.size r W') ∧ Keeps n₀ b W W') ∨ (e = .returned (.bool false) ∧ Ix xs W' ∧ Book w.heap.size { r with state := .done, pending := some .ret } W') := by
  refine ⟨r.fn, _, r.assign, r.body, run_yield hb.1 hsz, roundIn_of_wpIn hfn (hassign _ ⟨_, run_beginRound hb.1 hready, ?_⟩)⟩
  have bb : Book w.heap.size { r with state := .busy } (W.putObj (w.heap.size + 1) (.loop { r with state := .busy })) := hb.put
  have lb := low_put hn hbw { r with state := .busy } hb.1
  refine wpIn_mono (hbody _ (hI.putObj _ hi (by omega) hb.1 rfl)) ?_
  intro e a3 W3 hp
  match e, hp with
  | .normal, hp =>
    obtain ⟨hk, hbl, hi3⟩ := hp
    have b3 := bb.keep hk
    have er : ({ r with state := .ready, pending := none } : Loop) = r := by cases r; simp_all
    refine ⟨_, _, run_endRound none b3.1, .inl ⟨rfl, ⟨hI.putObj _ hi3 (by omega) b3.1 rfl, ?_⟩, (lb.trans hbl).trans (low_put hn hbw _ b3.1)⟩⟩
    have := b3.put (r' := { r with state := .ready, pending := none })
    rw [er] at this
    rw [← er] at this ⊢
    exact this
  | .ret, hp =>
    obtain ⟨hk, hi3⟩ := hp
    have b3 := bb.keep hk
    exact ⟨_, _, run_endRound (some .ret) b3.1, .inr ⟨rfl, hIx.putObj _ hi3 (by omega) b3.1 rfl, b3.put⟩⟩

theorem range_cell {g : Operand} {ps : Array Tmp} {assign body : Code} {Q : Exit → Act → World → Prop} {a : Act} {w : World} {b n₀ : Nat} (hbw : b < w.heap.size) (hn : n₀ ≤ w.heap.size)
    (hro : F.round = none) (h1 : 1 ≤ n) {gf : Nat} {lb : Array Value} (hg : a.eval g = .func (.func gf) #[] lb) (hFg : F.fn gf) (eg : ∀ args w, (callFunc gf args).run P w = .ok (.enter gf args) w)
    {encs : α → Array Value} {all : List α} (hseq : ∀ W, Below w.heap.size w W → SeqCell b n₀ F (n - 1) P gf lb encs all W) (hps : ∀ x, (encs x).size = ps.size)
    (I Ix : List α → World → Prop) (hI : OwnFrom w.heap.size I) (hIx : OwnFrom w.heap.size Ix) (hIb : Bears b I) (hIxb : Bears b Ix) (h0 : I [] w) (a₁ : α → Act)
    (hassign : ∀ (l : Nat) (x : α) (W : World) (K : Act → World → Prop), K (a₁ x) W →
      assign.wpIn (F.inRound l) (n - 1 - 1) P (Exit.then K (fun _ _ _ => False)) { tmps := (ps.zip (encs x)).foldl (fun t (p, v) => t.setIfInBounds p v) a.tmps, defers := [] } W)
    (hbody : ∀ (l : Nat) (pre : List α) (x : α) (W : World), I pre W → (pre ++ [x]) <+: all → body.wpIn (F.inRound l) (n - 1 - 1) P (RoundEnd w.heap.size n₀ b I Ix (pre ++ [x]) W) (a₁ x) W)
    (hdone : ∀ (D : Nat) (W : World), w.heap.size ≤ D → I all W → W.heap[D]? = some (.deferred (some [])) → Q .normal { a with defers := { target := .collected D, args := #[] } :: a.defers } W)
    (hstop : ∀ (D : Nat) (pre : List α) (W : World), w.heap.size ≤ D → pre <+: all → Ix pre W → W.heap[D]? = some (.deferred (some [])) → Code.ret.wpIn F n P Q { a with defers := { target := .collected D, args := #[] } :: a.defers } W) :
    (Code.rangeFunc g ps assign body).wpIn F n P Q a w := by
  refine wpIn_rangeFunc fun fn hfn => ?_
  rw [hro]
  generalize hr : ({ state := .ready, pending := none, fn, tmps := a.tmps, params := ps, assign, body, defers := w.heap.size } : Loop) = r
  generalize hW : (w.alloc (.deferred (some []))).alloc (.loop r) = W1
  have hB1 : Book w.heap.size r W1 := hW ▸ Book.new w r
  have hI1 : I [] W1 := hW ▸ hI.alloc _ (hI.alloc _ h0)
  have hlow : Below w.heap.size w W1 := hW ▸ (((Below.refl _ w).alloc (Nat.le_refl _) _).alloc (by simp) _)
  have hsz : w.heap.size ≤ W1.heap.size := hlow.size
  have walkTo : ∀ {A : World} {row : Option Nat}, (∀ k, row = some k → W1.heap.size ≤ k ∧ ∃ o : Obj, A.heap[k]? = some o ∧ o.isWalk = true) → (∀ k, row = some k → w.heap.size ≤ k ∧ ∃ o : Obj, A.heap[k]? = some o ∧ o.isCells = false) := by
    intro A row h k e
    obtain ⟨hk, o, ho, hw⟩ := h k e
    exact ⟨Nat.le_trans hsz hk, o, ho, Obj.not_cells_of_walk hw⟩
  refine ⟨w.heap.size + 1, [{ target := .collected w.heap.size, args := #[] }], W1, { target := .fn (.func gf) lb, args := #[.func (.yield (w.heap.size + 1)) #[] #[]] }, W1, gf, #[.func (.yield (w.heap.size + 1)) #[] #[]] ++ lb, W1, ?_, ?_, ?_, ?_, fun _ => h1, ?_⟩
  · rw [← hW, ← hr]
    exact run_enterLoop_outer _ _ _ _ _
  · simp only [resolve, hg]
    simp [go_sem]
  · intro f' hf'
    simp [Target.leads] at hf'
    exact hf' ▸ hFg
  · simp [invoke, go_sem, eg]
  have call := hseq W1 hlow (w.heap.size + 1) (fun pre W => I pre W ∧ Book w.heap.size r W) (fun pre W => Ix pre W ∧ Book w.heap.size { r with state := .done, pending := some .ret } W)
    (fun s A B row h hgr hrow => ⟨hI s A B row h.1 hgr (walkTo hrow), h.2.walk hgr (fun k e => (hrow k e).2)⟩)
    (fun s A B row h hgr hrow => ⟨hIx s A B row h.1 hgr (walkTo hrow), h.2.walk hgr (fun k e => (hrow k e).2)⟩)
    (fun s W v h => ⟨hIb s W v h.1, h.2.cell hbw v⟩) (fun s W v h => ⟨hIxb s W v h.1, h.2.cell hbw v⟩)
    (fun pre x W h hpre => by
      subst hr
      exact yield_at hn hbw _ rfl rfl hfn hI hIx (hps x) pre (pre ++ [x]) W h.1 h.2 (a₁ x) (hassign _ x W) (fun W hi => hbody _ pre x W hi hpre))
    ⟨hI1, hB1⟩
  refine call.mono ?_
  rintro e W2 ⟨⟨v, rfl⟩, ⟨hi, hb⟩ | ⟨pre, hpre, hi, hb⟩⟩
  · have hend := run_endLoop (P := P) hb.1 (by rw [← hr]; simp)
    refine ⟨none, _, by rw [hend, ← hr], ?_⟩
    exact hdone _ _ (Nat.le_refl _) (hI.putObj _ hi (by omega) hb.1 rfl) ((World.putObj_heap_other (by omega)).trans hb.2)
  · have hend := run_endLoop (P := P) hb.1 (by simp)
    exact ⟨some .ret, _, hend, hstop _ pre _ (Nat.le_refl _) hpre (hIx.putObj _ hi (by omega) hb.1 rfl) ((World.putObj_heap_other (by omega)).trans hb.2)⟩
end Go.Proofs.Ytcjokajnlpcdiaa.H
