import Derived.Test.YtehnppklfaoikaaHQu3
import Derived.Test.YtehnppklfaoikaaHConst
import Derived.Test.YtehnppklfaoikaaWRepsOne
/- The queue: awake. -/
namespace Go.Proofs.Ytehnppklfaoikaa.H
open Go Go.RowKit Go.Proofs.YtehnppklfaoikaaW.PrintWords Go.Proofs.YtehnppklfaoikaaW.PrintLast Go.Proofs.YtehnppklfaoikaaW.PrintMore
set_option linter.unusedVariables false
set_option linter.unusedSimpArgs false

theorem Qu.bound {w : World} {base q : Nat} {P : Nat → Prop} {x : QS} (h : Qu w base q P x) : Qu w base q (fun k => P k ∧ base ≤ k ∧ k < w.heap.size) x := by
  obtain ⟨h0, sl, h1, h2⟩ := h
  exact ⟨h0, sl, h1, Kd.R_mono (Kd.R_bound h2) (fun k hk => ⟨hk.1, hk.2.1, hk.2.2.1⟩)⟩
theorem Qu.dr_ {w : World} {base q : Nat} {P : Nat → Prop} {x : QS} (h : Qu w base q P x) (d : Int) (e : x.dr = d) : Qu w base q P ⟨x.bs, x.room, d⟩ := by
  subst e
  exact h
theorem Qu.bs_ {w : World} {base q : Nat} {P : Nat → Prop} {x : QS} (h : Qu w base q P x) (l : List Int) (e : x.bs = l) : Qu w base q P ⟨l, x.room, x.dr⟩ := by
  subst e
  exact h
/-- What lies in new blocks can be read whatever the queue does. -/
theorem read_new {W : World} {base q : Nat} {P : Nat → Prop} {A : Option Addr} {n c : Nat} {l : List Int} {ok : Nat → Prop} (h : Kd.R (Kd.int .u8) 5 W base ok (.slice A n c) l) (hn : ∀ k, ok k → ¬ (P k ∨ k = q)) :
    ∀ W1, Kept W W1 (fun k => P k ∨ k = q) → Kd.C (Kd.int .u8) W1 A l.length l := fun W1 hk =>
  (Kd.R_reads' (Kd.R_step h (fun k h1 h2 => hk.2 k h2 (hn k h1)))).2.2

/-- What is read in a block that is kept. -/
theorem C_kept {w W : World} {A : Option Addr} {n : Nat} {l : List Int} {S : Nat → Prop} (h : Kd.C (Kd.int .u8) w A n l) (hk : Kept w W S) (hn : ∀ a, A = some a → a.block < w.heap.size → ¬ S a.block) : Kd.C (Kd.int .u8) W A n l := by
  refine ⟨h.1, h.2.1, fun h0 => ?_⟩
  obtain ⟨ad, e1, hcell⟩ := h.2.2 h0
  refine ⟨ad, e1, fun j p hp => ?_⟩
  obtain ⟨cs, h1, h2, h3⟩ := hcell j p hp
  refine ⟨cs, h1, h2, fun i u hu => ?_⟩
  rw [← h3 i u hu]
  have hlt : ad.block < w.heap.size := by
    rcases Nat.lt_or_ge ad.block w.heap.size with h | h
    · exact h
    · exfalso
      have h4 := h3 i u hu
      have e3 : (ad.add (j * (Kd.int .u8).sz + i)).block = ad.block := by simp only [Addr.add]; split <;> rfl
      unfold World.cell? at h4
      rw [e3, Array.getElem?_eq_none h] at h4
      simp at h4
  have hb : W.heap[ad.block]? = w.heap[ad.block]? := hk.2 _ hlt (hn ad e1 hlt)
  unfold World.cell?
  have e2 : ∀ m, (ad.add m).block = ad.block := fun _ => by simp only [Addr.add]; split <;> rfl
  simp only [e2, hb]
/-- A literal has been laid and converted: the queue is what it was. -/
theorem qu_conv {W W1 wc : World} {base q g n c : Nat} {P : Nat → Prop} {x : QS} (h : Qu W base q P x) (hg : W.grownBy W1 none) (hk : ∀ k, some k ≠ (Value.slice (some ⟨g, 0, none⟩) n c).ownBlock → wc.heap[k]? = W1.heap[k]?) (hn : W.heap.size ≤ g) (hp : ∀ k, P k → k < W.heap.size) : Qu wc base q P x := by
  obtain ⟨h0, sl, h1, h2⟩ := h
  have hlt := blk_lt h1
  have key : ∀ k, k < W.heap.size → wc.heap[k]? = W.heap[k]? := fun k hk1 => (hk k (fun e => absurd hk1 (by rw [show k = g by simpa [Value.ownBlock] using e]; omega))).trans (hg.block k hk1 (by simp))
  exact ⟨h0, sl, (key q hlt).trans h1, Kd.R_step h2 (fun k hk1 hk2 => key k hk2)⟩
theorem read_lit {wc : World} {q g : Nat} {P : Nat → Prop} {l : List Int} (h : Kd.C (Kd.int .u8) wc (some ⟨g, 0, none⟩) l.length l) (hn : ¬ (P g ∨ g = q)) :
    ∀ W, Kept wc W (fun k => P k ∨ k = q) → Kd.C (Kd.int .u8) W (some ⟨g, 0, none⟩) l.length l := fun W hk => C_kept h hk (fun a ha _ => by
  injection ha with ha
  subst ha
  exact hn)
theorem Qu.lower {w : World} {base base' q : Nat} {P : Nat → Prop} {x : QS} (h : Qu w base q P x) (hb : base' ≤ base) : Qu w base' q P x := by
  obtain ⟨h0, sl, h1, h2⟩ := h
  exact ⟨Nat.le_trans hb h0, sl, h1, Kd.R_lower h2 hb⟩
/-- What came in is read whatever a queue of the call's own does. -/
theorem read_old {w W : World} {q : Nat} {P : Nat → Prop} {A : Option Addr} {l : List Int} (h : Kd.C (Kd.int .u8) w A l.length l) (hB : Below w.heap.size w W) (hq : w.heap.size ≤ q) (hP : ∀ k, P k → w.heap.size ≤ k) :
    ∀ W1, Kept W W1 (fun k => P k ∨ k = q) → Kd.C (Kd.int .u8) W1 A l.length l := fun W1 hk =>
  C_kept h ((Kept.of_below hB (fun k => w.heap.size ≤ k)).then_ hk (fun k h => .inl (h.elim (hP k) (fun e => e ▸ hq)))) (fun a _ h1 => Nat.not_le.2 h1)
theorem read_nil {W : World} {S : Nat → Prop} : ∀ W1, Kept W W1 S → Kd.C (Kd.int .u8) W1 none ([] : List Int).length [] := fun W1 _ => (Kd.R_reads' (Kd.R_nil (Kd.int .u8) 5 W1 0 (fun _ => True))).2.2

set_option maxHeartbeats 4000000 in
set_option maxRecDepth 100000 in
theorem awake_calls (w : World) :
    Calls Try.prog 9 #[] w fun e w' => e = .returned (.bool true) ∧ Below w.heap.size w w' := by
  go_enter Try.func9, Try.ntmps9
  go_wp2_with (first | (go_at_call 11; refine (New_some 64 _ (fun _ => False) (by decide)).mono ?_; rintro e W1 ⟨q, rfl, hq, hb⟩; have HQ := Aside0.mk hq; have HB := Aside0.mk hb; have HL := Aside0.mk hq.lt; clear hq hb) | ((with_reducible refine gate_ (.makeSlice 28 (.const (.int .i64 60)) (.const (.int .i64 60))) rfl ?_); refine Kd.R_make (Kd.int .u8) (w0 := w) w.heap.size 5 rfl (N := 8) rfl 28 (.const (.int .i64 60)) (.const (.int .i64 60)) rfl 60 rfl rfl Try.underlying28 (.int .u8 0) 1 infoU8 rfl (by decide) (by decide) 0 (ok := fun k => W1.heap.size ≤ k) (okp := fun _ => False) rfl (fun _ h => h.elim) (Nat.le_refl _) (by decide) (by decide) HB.out (below_size HB.out) ?_; intro v1 W2 ho hb hg hat; have HQ2 := Aside0.mk (Qu.kept HQ.out (Kept.of_grown hg (Kept.refl W1 (fun _ => False)) (fun k h => by cases h)) (fun h => h) (fun _ _ h => h)); have HB2 := Aside0.mk hb; obtain ⟨A3, c3, e3⟩ := Kd.R_slice ho; subst e3; have HO := Aside0.mk (show Kd.R (Kd.int .u8) 5 W2 w.heap.size (fun k => W1.heap.size ≤ k) (.slice A3 60 c3) (List.replicate 60 0) from ho); clear ho hb hg hat HB HQ) | (go_at_call 13; refine (Push_ok w W2 q (fun _ => False) ⟨[], 64, 0⟩ A3 (List.replicate 60 0) c3 HB2.out HQ2.out (read_new HO.out (fun k h1 h2 => by rcases h2 with h2 | h2; exact h2; have := HL.out; omega)) (Kd.R_reads' HO.out).2.1 (by decide) (by decide)).mono ?_; rintro e W3 ⟨rfl, hq, hb, hk⟩; have HQ3 := Aside0.mk hq.bound; have HB3 := Aside0.mk hb; clear hq hb hk HQ2 HB2 HO HL) | ((with_reducible refine gate_dst (N := 11) rfl ?_); refine Kd.R_lit (Kd.int .u8) (w0 := w) w.heap.size 5 ?hg (N := 11) ?hd (xs := ([49, 50, 51, 52, 53] : List Int)) (inner := [.int .u8 49, .int .u8 50, .int .u8 51, .int .u8 52, .int .u8 53]) (ok := fun k => W3.heap.size ≤ k) (okp := fun _ => False) ?hr ?hp (fun _ hk => hk.elim) (Nat.le_refl _) HB3.out (below_size HB3.out) (by simp) ?_; (case hd => rfl); (case hg => rfl); (case hr => first | (go_simp; done) | (go_simp; rfl)); (case hp => exact (Reps.one (show Kd.M (Kd.int .u8) _ _ _ 49 [.int .u8 49] from rfl) (Reps.one (show Kd.M (Kd.int .u8) _ _ _ 50 [.int .u8 50] from rfl) (Reps.one (show Kd.M (Kd.int .u8) _ _ _ 51 [.int .u8 51] from rfl) (Reps.one (show Kd.M (Kd.int .u8) _ _ _ 52 [.int .u8 52] from rfl) (Reps.one (show Kd.M (Kd.int .u8) _ _ _ 53 [.int .u8 53] from rfl) (Reps.none _ _))))))); intro v4 W4 ho hb hg hat; have hL := HQ3.out.lt; obtain ⟨g4, c4, e4, hg0, hg1, hgc⟩ := Kd.R_form ho (by decide); subst e4; have hg2 : W3.heap.size ≤ g4 := ho.1 g4 rfl; obtain ⟨wc4, er4, hcc, hlc, hbc, hkc⟩ := conv_const (n := 5) (t := 28) (e := 5) Try.underlying28 Try.underlying5 ho (by decide) hb; have hq1 := Aside0.mk (qu_conv HQ3.out hg hkc hg2 (fun k hk => hk.2.2)); have hB1 := Aside0.mk hbc; have HC4 := Aside0.mk hcc; have HL4 := Aside0.mk hlc; have HG4 := Aside0.mk hg2; have HT4 := Aside0.mk hL; clear HQ3 HB3; have HQ4 := hq1; have HB4 := hB1; clear hq1 hB1 ho hb hg hat hL hg0 hg1 hg2 hcc hlc hbc hkc hgc) | (go_at_call 13; refine (Push_big w wc4 q _ ⟨[] ++ List.replicate 60 0, 64, 0⟩ (some ⟨g4, 0, none⟩) 5 c4 HB4.out HQ4.out (by decide) (by decide)).mono ?_; rintro e W5 ⟨rfl, hq, hb, hk⟩; have HQ5 := Aside0.mk (hq.bound.dr_ 1 (by simp [wrap64])); have HB5 := Aside0.mk hb; clear hq hb hk HQ4 HB4) | ((with_reducible refine gate_dst (N := 15) rfl ?_); refine Kd.R_lit (Kd.int .u8) (w0 := w) w.heap.size 5 ?hg (N := 15) ?hd (xs := ([49, 50, 51, 52] : List Int)) (inner := [.int .u8 49, .int .u8 50, .int .u8 51, .int .u8 52]) (ok := fun k => W5.heap.size ≤ k) (okp := fun _ => False) ?hr ?hp (fun _ hk => hk.elim) (Nat.le_refl _) HB5.out (below_size HB5.out) (by simp) ?_; (case hd => rfl); (case hg => rfl); (case hr => first | (go_simp; done) | (go_simp; rfl)); (case hp => exact (Reps.one (show Kd.M (Kd.int .u8) _ _ _ 49 [.int .u8 49] from rfl) (Reps.one (show Kd.M (Kd.int .u8) _ _ _ 50 [.int .u8 50] from rfl) (Reps.one (show Kd.M (Kd.int .u8) _ _ _ 51 [.int .u8 51] from rfl) (Reps.one (show Kd.M (Kd.int .u8) _ _ _ 52 [.int .u8 52] from rfl) (Reps.none _ _)))))); intro v6 W6 ho hb hg hat; have hL := HQ5.out.lt; obtain ⟨g6, c6, e6, hg0, hg1, hgc⟩ := Kd.R_form ho (by decide); subst e6; have hg2 : W5.heap.size ≤ g6 := ho.1 g6 rfl; obtain ⟨wc6, er6, hcc, hlc, hbc, hkc⟩ := conv_const (n := 4) (t := 28) (e := 5) Try.underlying28 Try.underlying5 ho (by decide) hb; have hq1 := Aside0.mk (qu_conv HQ5.out hg hkc hg2 (fun k hk => hk.2.2)); have hB1 := Aside0.mk hbc; have HC6 := Aside0.mk hcc; have HL6 := Aside0.mk hlc; have HG6 := Aside0.mk hg2; have HT6 := Aside0.mk hL; clear HQ5 HB5; have HQ6 := hq1; have HB6 := hB1; clear hq1 hB1 ho hb hg hat hL hg0 hg1 hg2 hcc hlc hbc hkc hgc) | (go_at_call 13; refine (Push_ok w wc6 q _ ⟨[] ++ List.replicate 60 0, 64, 1⟩ (some ⟨g6, 0, none⟩) [49, 50, 51, 52] c6 HB6.out HQ6.out (read_lit HC6.out (fun h => h.elim (fun h => absurd h.2.2 (Nat.not_lt.2 HG6.out)) (fun h => absurd HT6.out (Nat.not_lt.2 (h ▸ HG6.out))))) HL6.out (by decide) (by decide)).mono ?_; rintro e W7 ⟨rfl, hq, hb, hk⟩; have HQ7 := Aside0.mk hq.bound; have HB7 := Aside0.mk hb; clear hq hb hk HQ6 HB6 HC6 HL6 HG6 HT6) | (go_at_call 15; refine (Drain_calls w W7 q _ ⟨([] ++ List.replicate 60 0) ++ [49, 50, 51, 52], 64, 1⟩ 61 HB7.out HQ7.out (by decide)).mono ?_; rintro e W8 ⟨v8, rfl, ho, hq, hb, hk⟩; have HQ8 := Aside0.mk (show Qu W8 w.heap.size q _ ⟨[50, 51, 52], 64, 1⟩ from hq); have ho8 : Kd.R (Kd.int .u8) 5 W8 w.heap.size _ v8 (List.replicate 60 0 ++ [49]) := ho; obtain ⟨g8, c8, e8, hg0, hg1, hgc⟩ := Kd.R_form ho8 (by decide); subst e8; have hc60 : W8.cell? ⟨g8, 60, none⟩ = some (.int .u8 49) := (Kd.R_cell 0 ho8 60 (by decide) (by decide)).1; have hz60 : W8.frozen? ⟨g8, 60, none⟩ = false := (Kd.R_cell 0 ho8 60 (by decide) (by decide)).2; have HB8 := Aside0.mk hb; clear ho hq hb hk HQ7 HB7 hg0 hg1 hgc ho8) | (go_at_call 17; refine (Len_calls W8 _ q _ _ HQ8.out).mono ?_; rintro e W9 ⟨rfl, hb⟩; have HQ9 := Aside0.mk (HQ8.out.below hb); have HB9 := Aside0.mk (below_step HB8.out hb); clear hb HQ8 HB8) | (go_at_call 18; refine (Dropped_calls W9 _ q _ _ HQ9.out (by decide)).mono ?_; rintro e W10 ⟨rfl, hb⟩; have HB10 := Aside0.mk (below_step HB9.out hb); clear hb HQ9 HB9))
  go_ret
  exact ⟨rfl, HB10.out⟩

end Go.Proofs.Ytehnppklfaoikaa.H
