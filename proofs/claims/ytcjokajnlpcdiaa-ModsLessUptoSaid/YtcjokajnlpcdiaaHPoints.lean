import Derived.Test.YtcjokajnlpcdiaaHRange
import Derived.Test.YtcjokajnlpcdiaaHUTake
import Derived.Shelf.Abstract
import Derived.Shelf.RegionOpen
import Derived.WalkKit
import Derived.OwnWalkIn
import Derived.TacticsInMore
import Derived.LoopNIn
import Derived.LoopIn
import Derived.RangeFuncBox
/- utf.points: the iterator over the code points with which bytes begin. -/
namespace Go.Proofs.Ytcjokajnlpcdiaa.H
open Go Go.RowKit Go.Shelf Go.Proofs.YtcjokajnlpcdiaaW.PrintWords Go.Proofs.YtcjokajnlpcdiaaW.PrintLast Go.Proofs.YtcjokajnlpcdiaaW.PrintMore
set_option linter.unusedVariables false
set_option linter.unusedSimpArgs false
attribute [local go_sem] Oper.semAt_some

theorem takeC_len (l : List Int) : (takeC l).2 = 0 ∨ (1 ≤ (takeC l).2 ∧ (takeC l).2 ≤ l.length) := by
  unfold takeC
  repeat' split
  · rename_i h; have := h.1; exact .inr ⟨by simp, by simp; omega⟩
  · rename_i h; have := h.1; exact .inr ⟨by simp, by simp; omega⟩
  · rename_i h; have := h.1; exact .inr ⟨by simp, by simp; omega⟩
  · rename_i h; have := h.1; exact .inr ⟨by simp, by simp; omega⟩
  · exact .inl rfl
/-- The code points of bytes; where there is none: false, and the end. -/
def pts : Nat → List Int → List (Int × Bool)
  | 0, _ => []
  | k + 1, l => if l.length = 0 then [] else if (takeC l).2 = 0 then [((takeC l).1, false)] else ((takeC l).1, true) :: pts k (l.drop (takeC l).2.toNat)
@[reducible] def encP (x : Int × Bool) : Array Value := #[.int .i64 x.1, .bool x.2]
/-- How many bytes are left, as the iterator's cell tells it. -/
def leftAt (b : Nat) (W : World) : Nat := match W.cell? ⟨b, 0, none⟩ with | some (.slice _ n _) => n | _ => 0

theorem leftAt_of {b n c : Nat} {A : Option Addr} {W : World} (h : W.heap[b]? = some (.cells #[.slice A n c] 39 (0, 0))) : leftAt b W = n := by
  unfold leftAt
  rw [(blk_cell h 0).trans rfl]
  rfl
theorem grown_of_below {W W' : World} (h : Below W.heap.size W W') : W.grownBy W' none := ⟨h.os, h.tape, h.output, h.size, fun k hk _ => h.block k hk⟩
set_option maxRecDepth 100000 in
set_option maxHeartbeats 2000000 in
theorem points_seq (w : World) (n : Nat) (hn : 3 ≤ n) (b : Nat) (A0 : Option Addr) (c0 : Nat) (l0 : List Int) (hr0 : Kd.C (Kd.int .u8) w A0 l0.length l0) (hc0 : l0.length ≤ c0) (hb : w.heap.size ≤ b) (W : World) (hW : Below w.heap.size w W)
    (hcell : W.heap[b]? = some (.cells #[.slice A0 l0.length c0] 39 (0, 0))) : SeqCell b w.heap.size Fence.wide n Try.prog 42 #[.pointer (some ⟨b, 0, none⟩)] encP (pts (l0.length + 1) l0) W := by
  intro l J Jx hJ hJx hJb hJxb hY h0
  refine callsIn_of_wp Try.func42 rfl trivial ?_ rfl
  simp only [Try.ntmps42, List.size_toArray, List.length_cons, List.length_nil, Nat.reduceAdd, Nat.reduceSub, Array.replicate_succ, Array.replicate_zero, List.push_toArray, List.append_toArray, List.nil_append, List.cons_append]
  gi_wp2
  gi_loopw [3] (fun v3 wr => ∃ (k m : Nat) (pre : List (Int × Bool)) (A : Option Addr) (c : Nat), m ≤ l0.length ∧ l0.length - m < k ∧ Aside0 (pts (l0.length + 1) l0 = pre ++ pts k (l0.drop m)) ∧ Aside0 (wr.heap[b]? = some (.cells #[.slice A (l0.drop m).length c] 39 (0, 0))) ∧ Aside0 (Kd.C (Kd.int .u8) w A (l0.drop m).length (l0.drop m) ∧ (l0.drop m).length ≤ c) ∧ Aside0 (J pre wr) ∧ Aside0 (Below w.heap.size w wr)) (fun _ wr => leftAt b wr)
  case atStart => exact ⟨l0.length + 1, 0, [], A0, c0, Nat.zero_le _, by omega, ⟨rfl⟩, ⟨hcell⟩, ⟨hr0, hc0⟩, ⟨h0⟩, ⟨hW⟩⟩
  case round =>
    obtain ⟨k, m, pre, A, c, hm, hk, HP, HC, HR, HJ, HB⟩ := hrel
    have hcz := (blk_cell HC.out 0).trans rfl
    have hfz := blk_frozen HC.out 0
    have hlt := blk_lt HC.out
    obtain ⟨L, hL⟩ : ∃ L, l0.drop m = L := ⟨_, rfl⟩
    rw [hL] at HC HR HP hcz
    have HLl := Aside0.mk (show L.length = l0.length - m by rw [← hL, List.length_drop])
    have HLd := Aside0.mk hL
    clear hL
    obtain ⟨k, rfl⟩ : ∃ q, k = q + 1 := ⟨k - 1, by omega⟩
    by_cases hz : L.length = 0
    · have hall : pts (l0.length + 1) l0 = pre := by rw [HP.out, pts, if_pos hz, List.append_nil]
      have Hall := Aside0.mk hall
      clear hall
      gi_wp2
      go_end0
      exact ⟨⟨_, rfl⟩, .inl (by rw [Hall.out]; exact HJ.out)⟩
    · obtain ⟨r1, r2, hT⟩ : ∃ r1 r2, takeC L = (r1, r2) := ⟨_, _, rfl⟩
      have hlen2 := takeC_len L
      rw [hT] at hlen2
      by_cases hr2 : r2 = 0
      · have hall : pts (l0.length + 1) l0 = pre ++ [(r1, false)] := by rw [HP.out, pts, if_neg hz, hT, if_pos hr2]
        have Hall := Aside0.mk hall
        have HT := Aside0.mk (show utf_Take.f L = some (r1, r2) by rw [utf_Take.f, hT])
        clear hall hT
        subst hr2
        gi_wp2
        refine ⟨trivial, fun _ => by omega, ?_⟩
        refine (callsIn_wide.2 (utf_Take.calls A c L r1 0 _ (Kd.C_below HR.out.1 HB.out) HR.out.2 HT.out)).mono ?_
        rintro e w1 ⟨rfl, hb1⟩
        have HJ1 := hJ pre wr w1 none HJ.out (grown_of_below hb1) (fun _ e => by cases e)
        obtain ⟨fn, tmps, assign, body, hy, hR⟩ := hY pre (r1, false) w1 HJ1 (by rw [Hall.out]; exact List.prefix_refl _)
        dsimp only [encP] at hy
        gi_wp2
        refine ⟨fun _ => by omega, hR.mono ?_⟩
        rintro e W3 (⟨rfl, hJ3, hk3⟩ | ⟨rfl, hJx3⟩)
        · gi_wp2
          refine bodyPost_ret (results_none rfl _ _ _) rfl ?_
          exact ⟨⟨_, rfl⟩, .inl (by rw [Hall.out]; exact hJ3)⟩
        · gi_wp2
          refine bodyPost_ret (results_none rfl _ _ _) rfl ?_
          exact ⟨⟨_, rfl⟩, .inr ⟨pre ++ [(r1, false)], by rw [Hall.out]; exact List.prefix_refl _, hJx3⟩⟩
      · have hp2 : 1 ≤ r2 ∧ r2 ≤ L.length := by omega
        have hdp : decide (0 < r2) = true := decide_eq_true (by omega)
        have hnext : pts (l0.length + 1) l0 = (pre ++ [(r1, true)]) ++ pts k (l0.drop (m + r2.toNat)) := by
          rw [HP.out, pts, if_neg hz, hT, if_neg hr2, ← List.drop_drop, HLd.out, List.append_assoc]
          rfl
        have Hnext := Aside0.mk hnext
        have HT := Aside0.mk (show utf_Take.f L = some (r1, r2) by rw [utf_Take.f, hT])
        have HP2 := Aside0.mk hp2
        clear hnext hT hlen2
        gi_wp2
        refine ⟨trivial, fun _ => by omega, ?_⟩
        refine (callsIn_wide.2 (utf_Take.calls A c L r1 r2 _ (Kd.C_below HR.out.1 HB.out) HR.out.2 HT.out)).mono ?_
        rintro e w1 ⟨rfl, hb1⟩
        have HJ1 := hJ pre wr w1 none HJ.out (grown_of_below hb1) (fun _ e => by cases e)
        have HB1 := Aside0.mk (below_step HB.out hb1)
        have HC1 := Aside0.mk (blk_below HC.out hb1)
        obtain ⟨fn, tmps, assign, body, hy, hR⟩ := hY pre (r1, true) w1 HJ1 (by rw [Hnext.out]; exact List.prefix_append _ _)
        dsimp only [encP] at hy
        gi_wp2
        refine ⟨fun _ => by omega, hR.mono ?_⟩
        rintro e W3 (⟨rfl, hJ3, hk3⟩ | ⟨rfl, hJx3⟩)
        · have HC3 := Aside0.mk (hk3.cell.trans HC1.out)
          have HB3 := Aside0.mk (HB1.out.trans hk3.low)
          have hcz3 := (blk_cell HC3.out 0).trans rfl
          have hfz3 := blk_frozen HC3.out 0
          have hb0 : (r2 == 0) = false := by simpa using hr2
          obtain ⟨i0, hi0, _, hsz, _⟩ := info_parts info5
          have hcut := cut_from (P := Try.prog) 39 5 .i64 Try.underlying39 hi0 1 hsz A L.length c r2 (by omega) (by omega)
          have hCd := Kd.C_drop (m := r2.toNat) (c := c) HR.out.1 (by omega) HR.out.2
          have hdd : L.drop r2.toNat = l0.drop (m + r2.toNat) := by rw [← HLd.out, List.drop_drop]
          have hdl : L.length - r2.toNat = (l0.drop (m + r2.toNat)).length := by rw [← hdd, List.length_drop]
          rw [hdd] at hCd
          rw [hdl] at hcut
          obtain ⟨A', hA'⟩ : ∃ A', (if c = r2.toNat then A else A.map (·.add (r2.toNat * 1))) = A' := ⟨_, rfl⟩
          obtain ⟨c', hc'⟩ : ∃ c', c - r2.toNat = c' := ⟨_, rfl⟩
          have hcl : (l0.drop (m + r2.toNat)).length ≤ c' := by have := HR.out.2; omega
          rw [hA', hc'] at hcut
          have hCd' : Kd.C (Kd.int .u8) w A' (l0.drop (m + r2.toNat)).length (l0.drop (m + r2.toNat)) := hA' ▸ hCd
          have HCd := Aside0.mk hCd'
          have HCl := Aside0.mk hcl
          have HDl := Aside0.mk hdl
          clear hCd hCd' hcl hdd hA' hc' hdl hi0 hsz
          obtain ⟨n', hn'⟩ : ∃ n', (l0.drop (m + r2.toNat)).length = n' := ⟨_, rfl⟩
          rw [hn'] at hcut
          have HN' := Aside0.mk hn'
          clear hn'
          gi_wp2
          have hB := blk_put (cs := #[.slice A L.length c]) HC3.out 0 (.slice A' n' c') rfl
          have e1 := HLl.out
          have e2 := HP2.out
          have e3 := HDl.out
          have e4 := HN'.out
          refine ⟨⟨k, m + r2.toNat, pre ++ [(r1, true)], A', c', by omega, by omega, Hnext, ⟨by rw [HN'.out]; exact hB⟩, ⟨HCd.out, HCl.out⟩, ⟨hJb _ _ _ hJ3⟩, ⟨below_set HB3.out hb⟩⟩, ?_⟩
          rw [leftAt_of hB, leftAt_of HC.out]
          omega
        · gi_wp2
          refine bodyPost_ret (results_none rfl _ _ _) rfl ?_
          exact ⟨⟨_, rfl⟩, .inr ⟨pre ++ [(r1, true)], by rw [Hnext.out]; exact List.prefix_append _ _, hJx3⟩⟩
end Go.Proofs.Ytcjokajnlpcdiaa.H
